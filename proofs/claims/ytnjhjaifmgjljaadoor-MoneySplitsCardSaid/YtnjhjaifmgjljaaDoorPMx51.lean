-- Written by a program of this session's (wip/tools/myprint.py): a function's plain form and its contract.
import Derived.Test.YtnjhjaifmgjljaaDoorPMx0
import Derived.Test.YtnjhjaifmgjljaaDoorPMx12
import Derived.Test.YtnjhjaifmgjljaaDoorPMx13
import Derived.Test.YtnjhjaifmgjljaaDoorPMx14
import Derived.Test.YtnjhjaifmgjljaaDoorPMx42
import Derived.Test.YtnjhjaifmgjljaaDoorPMx43
import Derived.Test.YtnjhjaifmgjljaaDoorPMx44
import Derived.Test.YtnjhjaifmgjljaaDoorPMx50
namespace Go.Proofs.YtnjhjaifmgjljaaDoor.PM
open Go.RowKit Go.Proofs.YtnjhjaifmgjljaaDoorW.PrintWords Go.Proofs.YtnjhjaifmgjljaaDoorW.PrintLast Go.Proofs.YtnjhjaifmgjljaaDoorW.PrintMore
attribute [local go_sem] max2_int min2_int max_two min_two max_three min_three max_four min_four   -- for this text's walks alone
set_option linter.unusedVariables false
set_option linter.unusedSimpArgs false

/-! ### levyref1_Times: function 42 -/
def levyref1_Times.j0 : Nat → Bool → Int → Int → Int → Int → Option (Int × Int)
 | 0, _, _, _, _, _ => none
 | k + 1, x24, x523000, x523001, x524000, x524001 => if x24 = true then ((levyref1_bad.f 5).bind fun bt532 => (some (bt532.1, bt532.2))) else ((levyref1_size.f x523001).bind fun t534 => ((levyref1_digits.f k t534).bind fun t535 => ((levyref1_size.f x524001).bind fun t538 => ((levyref1_digits.f k t538).bind fun t539 => ((levyref1_product.f k t535 t539).bind fun t542 => ((levyref1_rounded.f k t542 ((decide (x523001 < 0)) != (decide (x524001 < 0))) 1 1).bind fun t545 => ((levyref1_bounded.f 1 t545).bind fun bt546 => (some (bt546.1, bt546.2)))))))))
def levyref1_Times.f (k : Nat) (a0_0 : Int) (a0_1 : Int) (a1_0 : Int) (a1_1 : Int) : Option (Int × Int) := (levyref1_looked.f k (([(⟨a0_0, a0_1⟩ : S23), (⟨a1_0, a1_1⟩ : S23)] : List (S23)))).bind fun bt528 => (if bt528.2.2 = true then (some (bt528.1, bt528.2.1)) else (if a0_0 = 1 then (levyref1_Times.j0 k (a1_0 != 2) a0_0 a0_1 a1_0 a1_1) else (levyref1_Times.j0 k true a0_0 a0_1 a1_0 a1_1)))
theorem levyref1_Times.mono_l : ∀ k, (∀ y0 y1 y2 y3 y4, LeO (levyref1_Times.j0 k y0 y1 y2 y3 y4) (levyref1_Times.j0 (k + 1) y0 y1 y2 y3 y4))
 | 0 => fun _ _ _ _ _ r h => by simp [levyref1_Times.j0] at h
 | k + 1 => by
  have ih0 := levyref1_Times.mono_l k
  ·intro y0 y1 y2 y3 y4
   unfold levyref1_Times.j0
   repeat' first
   | (with_reducible exact ih0 _ _ _ _ _)
   | (with_reducible exact levyref1_digits.mono _ _)
   | (with_reducible exact levyref1_looked.mono _ _)
   | (with_reducible exact levyref1_product.mono _ _ _)
   | (with_reducible exact levyref1_rounded.mono _ _ _ _ _)
   | (with_reducible exact LeO.refl _)
   | (with_reducible exact LeO.none _)
   | (with_reducible refine LeO.ite ?_ ?_)
   | (with_reducible refine LeO.bind ?_ (fun _ => ?_))
   | exact ih0 _ _ _ _ _
   | exact levyref1_digits.mono _ _
   | exact levyref1_looked.mono _ _
   | exact levyref1_product.mono _ _ _
   | exact levyref1_rounded.mono _ _ _ _ _
   | exact LeO.none _
   | refine LeO.ite ?_ ?_
   | refine LeO.bind ?_ (fun _ => ?_)
theorem levyref1_Times.mono : ∀ a0 a1 a2 a3 k, LeO (levyref1_Times.f k a0 a1 a2 a3) (levyref1_Times.f (k + 1) a0 a1 a2 a3) := by
 intro a0 a1 a2 a3 k
 have ih0 := levyref1_Times.mono_l k
 unfold levyref1_Times.f
 repeat' first
   | (with_reducible exact ih0 _ _ _ _ _)
   | (with_reducible exact levyref1_digits.mono _ _)
   | (with_reducible exact levyref1_looked.mono _ _)
   | (with_reducible exact levyref1_product.mono _ _ _)
   | (with_reducible exact levyref1_rounded.mono _ _ _ _ _)
   | (with_reducible exact LeO.refl _)
   | (with_reducible exact LeO.none _)
   | (with_reducible refine LeO.ite ?_ ?_)
   | (with_reducible refine LeO.bind ?_ (fun _ => ?_))
   | exact ih0 _ _ _ _ _
   | exact levyref1_digits.mono _ _
   | exact levyref1_looked.mono _ _
   | exact levyref1_product.mono _ _ _
   | exact levyref1_rounded.mono _ _ _ _ _
   | exact LeO.none _
   | refine LeO.ite ?_ ?_
   | refine LeO.bind ?_ (fun _ => ?_)
def levyref1_Times.T6 : Bool × List (List Nat × List Nat) := (true, [([], []), ([0], [0]), ([1], [1]), ([2, 2], [2]), ([], []), ([4], [4]), ([5, 3], [5]), ([6, 6], [6]), ([3, 7, 7], [3, 7]), ([8, 8, 0, 1, 2, 3, 4, 5, 6, 7, 8], [8])])
def levyref1_Times.B6 : List Nat := [0, 1, 3, 7, 0, 16, 63, 127, 255, 511]
theorem levyref1_Times.tab6 : rtab .any (opsOf Tryd.f42 6) = levyref1_Times.T6 := by kernel_rfl
theorem levyref1_Times.bits6 : waitsOk levyref1_Times.T6.2 levyref1_Times.B6 = true := by kernel_rfl
set_option maxHeartbeats 8000000 in
set_option maxRecDepth 100000 in
theorem levyref1_Times.calls (k : Nat) (a0_0 : Int) (a0_1 : Int) (a1_0 : Int) (a1_1 : Int) (r1 : Int) (r2 : Int) (w : World) (h : levyref1_Times.f k a0_0 a0_1 a1_0 a1_1 = some (r1, r2)) :
  Calls Tryd.prog 42 #[.agg #[.int .i64 a0_0, .int .i64 a0_1], .agg #[.int .i64 a1_0, .int .i64 a1_1]] w fun e w' => e = .returned (.agg #[.int .i64 r1, .int .i64 r2]) ∧ Below w.heap.size w w' := by
 have hu23 := Tryd.underlying23
 have HB := Aside0.mk (Below.refl w.heap.size w)
 have H : ((levyref1_looked.f k (([(⟨a0_0, a0_1⟩ : S23), (⟨a1_0, a1_1⟩ : S23)] : List (S23)))).bind fun bt528 => (if bt528.2.2 = true then (some (bt528.1, bt528.2.1)) else (if a0_0 = 1 then (levyref1_Times.j0 k (a1_0 != 2) a0_0 a0_1 a1_0 a1_1) else (levyref1_Times.j0 k true a0_0 a0_1 a1_0 a1_1)))) = some (r1, r2) := h
 clear h
 obtain ⟨y525, hy525⟩ : ∃ y_ : List (S23), y_ = (([(⟨a0_0, a0_1⟩ : S23), (⟨a1_0, a1_1⟩ : S23)] : List (S23))) := ⟨_, rfl⟩
 replace H : ((levyref1_looked.f k y525).bind fun bt528 => (if bt528.2.2 = true then (some (bt528.1, bt528.2.1)) else (if a0_0 = 1 then (levyref1_Times.j0 k (a1_0 != 2) a0_0 a0_1 a1_0 a1_1) else (levyref1_Times.j0 k true a0_0 a0_1 a1_0 a1_1)))) = some (r1, r2) := by first | (rw [hy525]; with_reducible exact H) | (have H2_ := (Option.bind_some _ _).symm.trans H; rw [hy525]; with_reducible exact H2_) | (have H2_ := (Option.bind_some _ _).symm.trans H; with_reducible exact H2_) | with_reducible exact H | (rw [hy525]; exact H) | exact H
 have Ny525 := Aside0.mk hy525
 clear hy525
 replace H := Option.bind_eq_some_iff.mp H
 obtain ⟨⟨t528, t529, t530⟩, A30, H⟩ := H
 replace H : (if t530 = true then (some (t528, t529)) else (if a0_0 = 1 then (levyref1_Times.j0 k (a1_0 != 2) a0_0 a0_1 a1_0 a1_1) else (levyref1_Times.j0 k true a0_0 a0_1 a1_0 a1_1))) = some (r1, r2) := H
 have A3 := Aside0.mk A30
 clear A30
 by_cases c4 : t530 = true
 ·subst c4
  have H1 : (some (t528, t529)) = some (r1, r2) := by rw [if_pos rfl] at H; exact H
  clear H
  have H := H1
  clear H1
  simp only [Option.some.injEq, Prod.mk.injEq] at H
  obtain ⟨rfl, rfl⟩ := H
  go_enter Tryd.func42, Tryd.ntmps42
  go_wp2_with (first | ((with_reducible refine gate_dst (N := 2) rfl ?_); refine box_event ?hg (N := 2) ?hd (cs := #[.int .i64 a0_0, .int .i64 a0_1]) (t := 23) ?hr ?_; (case hd => rfl); (case hg => rfl); (case hr => first | (go_simp; done) | (go_simp; rfl)); intro gb522 hg w5 hbox hb; have n0_ := Aside0.mk (below_step blx hb); have n1_ := Aside0.mk (hbox); have n2_ := Aside0.mk ((by rw [hg]; exact (below_size blx) : w.heap.size ≤ gb522)); have n3_ := Aside0.mk ((by rw [hg]; exact (below_size blx) : w.heap.size ≤ gb522)); clear HB; have HB := n0_; have BK522 := n1_; have GW522 := n2_; have GE522 := n3_; clear n0_ n1_ n2_ n3_; clear hb hbox hg) | ((with_reducible refine gate_dst (N := 3) rfl ?_); refine box_event ?hg (N := 3) ?hd (cs := #[.int .i64 a1_0, .int .i64 a1_1]) (t := 23) ?hr ?_; (case hd => rfl); (case hg => rfl); (case hr => first | (go_simp; done) | (go_simp; rfl)); intro gb523 hg w6 hbox hb; have n0_ := Aside0.mk (blk_below (g := gb522) (o := .cells #[.int .i64 a0_0, .int .i64 a0_1] 23 (0, 0)) bkx hb); have n1_ := Aside0.mk (below_step blx hb); have n2_ := Aside0.mk (hbox); have n3_ := Aside0.mk ((by rw [hg]; exact (below_size blx) : w.heap.size ≤ gb523)); have n4_ := Aside0.mk ((by rw [hg]; exact (below_size blx) : w.heap.size ≤ gb523)); have n5_ := Aside0.mk ((by rw [hg]; exact Nat.ne_of_lt (blk_lt (g := gb522) (o := .cells #[.int .i64 a0_0, .int .i64 a0_1] 23 (0, 0)) bkx) : gb522 ≠ gb523)); have n6_ := Aside0.mk ((by rw [hg]; exact Nat.ne_of_gt (blk_lt (g := gb522) (o := .cells #[.int .i64 a0_0, .int .i64 a0_1] 23 (0, 0)) bkx) : gb523 ≠ gb522)); clear BK522; clear HB; have BK522 := n0_; have HB := n1_; have BK523 := n2_; have GW523 := n3_; have GE523 := n4_; have NB522_523 := n5_; have NB523_522 := n6_; clear n0_ n1_ n2_ n3_ n4_ n5_ n6_; clear hb hbox hg) | ((with_reducible refine gate_dst (N := 4) rfl ?_); refine box_event ?hg (N := 4) ?hd (cs := #[.int .i64 0, .int .i64 0]) (t := 23) ?hr ?_; (case hd => rfl); (case hg => rfl); (case hr => first | (go_simp; done) | (go_simp; rfl)); intro gb524 hg w7 hbox hb; have n0_ := Aside0.mk (blk_below (g := gb522) (o := .cells #[.int .i64 a0_0, .int .i64 a0_1] 23 (0, 0)) bkx hb); have n1_ := Aside0.mk (blk_below (g := gb523) (o := .cells #[.int .i64 a1_0, .int .i64 a1_1] 23 (0, 0)) bkx hb); have n2_ := Aside0.mk (below_step blx hb); have n3_ := Aside0.mk (hbox); have n4_ := Aside0.mk ((by rw [hg]; exact (below_size blx) : w.heap.size ≤ gb524)); have n5_ := Aside0.mk ((by rw [hg]; exact (below_size blx) : w.heap.size ≤ gb524)); have n6_ := Aside0.mk ((by rw [hg]; exact Nat.ne_of_lt (blk_lt (g := gb522) (o := .cells #[.int .i64 a0_0, .int .i64 a0_1] 23 (0, 0)) bkx) : gb522 ≠ gb524)); have n7_ := Aside0.mk ((by rw [hg]; exact Nat.ne_of_gt (blk_lt (g := gb522) (o := .cells #[.int .i64 a0_0, .int .i64 a0_1] 23 (0, 0)) bkx) : gb524 ≠ gb522)); have n8_ := Aside0.mk ((by rw [hg]; exact Nat.ne_of_lt (blk_lt (g := gb523) (o := .cells #[.int .i64 a1_0, .int .i64 a1_1] 23 (0, 0)) bkx) : gb523 ≠ gb524)); have n9_ := Aside0.mk ((by rw [hg]; exact Nat.ne_of_gt (blk_lt (g := gb523) (o := .cells #[.int .i64 a1_0, .int .i64 a1_1] 23 (0, 0)) bkx) : gb524 ≠ gb523)); clear BK522; clear BK523; clear HB; have BK522 := n0_; have BK523 := n1_; have HB := n2_; have BK524 := n3_; have GW524 := n4_; have GE524 := n5_; have NB522_524 := n6_; have NB524_522 := n7_; have NB523_524 := n8_; have NB524_523 := n9_; clear n0_ n1_ n2_ n3_ n4_ n5_ n6_ n7_ n8_ n9_; clear hb hbox hg; have hnb8 := NB522_523.out; have hnc8 := NB523_522.out; have hnb9 := NB522_524.out; have hnc9 := NB524_522.out; have hcz10_0 : w7.cell? ⟨gb522, 0, none⟩ = some (.int .i64 a0_0) := (blk_cell BK522.out 0).trans rfl; have hcz10_1 : w7.cell? ⟨gb522, 1, none⟩ = some (.int .i64 a0_1) := (blk_cell BK522.out 1).trans rfl; have hfz10_0 := blk_frozen BK522.out 0; have hfz10_1 := blk_frozen BK522.out 1; have hnb11 := NB523_524.out; have hnc11 := NB524_523.out; have hcz12_0 : w7.cell? ⟨gb523, 0, none⟩ = some (.int .i64 a1_0) := (blk_cell BK523.out 0).trans rfl; have hcz12_1 : w7.cell? ⟨gb523, 1, none⟩ = some (.int .i64 a1_1) := (blk_cell BK523.out 1).trans rfl; have hfz12_0 := blk_frozen BK523.out 0; have hfz12_1 := blk_frozen BK523.out 1) | ((with_reducible refine gate_dst (N := 11) rfl ?_); refine Kd.R_lit k23 _ 23 ?hg (N := 11) ?hd (xs := ([(⟨a0_0, a0_1⟩ : S23), (⟨a1_0, a1_1⟩ : S23)] : List (S23))) (inner := [.int .i64 a0_0, .int .i64 a0_1, .int .i64 a1_0, .int .i64 a1_1]) (ok := fun _ => True) (okp := fun _ => True) ?hr ?hp (fun _ hk => hk) trivial (Below.refl _ _) (Nat.le_refl _) (by simp) ?_; (case hd => rfl); (case hg => rfl); (case hr => first | (go_simp; done) | (go_simp; rfl)); (case hp => exact (Reps.c2 (show Kd.M k23 _ _ _ (⟨a0_0, a0_1⟩ : S23) [.int .i64 a0_0, .int .i64 a0_1] from (k23_mkM _ _ _ (⟨a0_0, a0_1⟩ : S23) )) (Reps.c2 (show Kd.M k23 _ _ _ (⟨a1_0, a1_1⟩ : S23) [.int .i64 a1_0, .int .i64 a1_1] from (k23_mkM _ _ _ (⟨a1_0, a1_1⟩ : S23) )) (Reps.none _ _)))); intro v526 w13 ho14 hb hg_ hnew_; clear hg_ hnew_; (first | rw [← Ny525.out] at ho14 | (simp only [Int.reduceToNat] at ho14; rw [← Ny525.out] at ho14)); have n0_ := Aside0.mk (Kd.R_lower (Kd.R_newB (Kd.R_newB (Kd.R_newB ho14 (g := gb522) (o := .cells #[.int .i64 a0_0, .int .i64 a0_1] 23 (0, 0)) bkx) (g := gb523) (o := .cells #[.int .i64 a1_0, .int .i64 a1_1] 23 (0, 0)) bkx) (g := gb524) (o := .cells #[.int .i64 0, .int .i64 0] 23 (0, 0)) bkx) (below_size blx)); have n1_ := Aside0.mk (blk_below (g := gb522) (o := .cells #[.int .i64 a0_0, .int .i64 a0_1] 23 (0, 0)) bkx hb); have n2_ := Aside0.mk (blk_below (g := gb523) (o := .cells #[.int .i64 a1_0, .int .i64 a1_1] 23 (0, 0)) bkx hb); have n3_ := Aside0.mk (blk_below (g := gb524) (o := .cells #[.int .i64 0, .int .i64 0] 23 (0, 0)) bkx hb); have n4_ := Aside0.mk (below_step blx hb); clear BK522; clear BK523; clear BK524; clear HB; have HO527 := n0_; have BK522 := n1_; have BK523 := n2_; have BK524 := n3_; have HB := n4_; clear n0_ n1_ n2_ n3_ n4_; clear hb ho14; obtain ⟨Ao15, co15, eo15⟩ := Kd.R_slice HO527.out; subst eo15) | ((with_reducible refine gate_callee (f := 63) rfl ?_); refine goesL_ (some 12) rfl rfl Tryd.func63 (by kernel_rfl) rfl #[.slice Ao15 y525.length co15] rfl agx ?_; (with_reducible refine (levyref1_looked.calls k _ _ y525 t528 t529 true _ ?side1 ?side2 A3.out).mono ?_); (case side1 => repeat (first | exact (Kd.R_reads' HO527.out).2.2 | (with_reducible refine Kd.C_alloc ?_ _) | (with_reducible refine Kd.C_drewN ?_ _) | (with_reducible refine Kd.C_drew ?_))); (case side2 => exact (Kd.R_reads' HO527.out).2.1); rintro e w16 ⟨rfl, hb⟩; refine ⟨_, rfl, ?_⟩; have n0_ := Aside0.mk (Kd.R_below (by (with_reducible repeat (first | apply Kd.R_alloc | apply Kd.R_drewN | apply Kd.R_drew)); exact HO527.out) hb); have n1_ := Aside0.mk (blk_below (g := gb522) (o := .cells #[.int .i64 a0_0, .int .i64 a0_1] 23 (0, 0)) bkx hb); have n2_ := Aside0.mk (blk_below (g := gb523) (o := .cells #[.int .i64 a1_0, .int .i64 a1_1] 23 (0, 0)) bkx hb); have n3_ := Aside0.mk (blk_below (g := gb524) (o := .cells #[.int .i64 0, .int .i64 0] 23 (0, 0)) bkx hb); have n4_ := Aside0.mk (below_step blx hb); clear HO527; clear BK522; clear BK523; clear BK524; clear HB; have HO527 := n0_; have BK522 := n1_; have BK523 := n2_; have BK524 := n3_; have HB := n4_; clear n0_ n1_ n2_ n3_ n4_; (try clear hb); (try clear hb2); (try clear hk); (try clear hi)) | ((with_reducible refine gate_dst (N := 5) rfl ?_); refine box_event ?hg (N := 5) ?hd (cs := #[.int .i64 0, .int .i64 0]) (t := 23) ?hr ?_; (case hd => rfl); (case hg => rfl); (case hr => first | (go_simp; done) | (go_simp; rfl)); intro gb531 hg w17 hbox hb; have n0_ := Aside0.mk (Kd.R_below (Kd.R_elderB (by (with_reducible repeat (first | apply Kd.R_alloc | apply Kd.R_drewN | apply Kd.R_drew)); exact HO527.out) gb531 (Nat.le_of_eq hg.symm)) hb); have n1_ := Aside0.mk (blk_below (g := gb522) (o := .cells #[.int .i64 a0_0, .int .i64 a0_1] 23 (0, 0)) bkx hb); have n2_ := Aside0.mk (blk_below (g := gb523) (o := .cells #[.int .i64 a1_0, .int .i64 a1_1] 23 (0, 0)) bkx hb); have n3_ := Aside0.mk (blk_below (g := gb524) (o := .cells #[.int .i64 0, .int .i64 0] 23 (0, 0)) bkx hb); have n4_ := Aside0.mk (below_step blx hb); have n5_ := Aside0.mk (hbox); have n6_ := Aside0.mk ((by rw [hg]; exact (below_size blx) : w.heap.size ≤ gb531)); have n7_ := Aside0.mk ((by rw [hg]; exact (below_size blx) : w.heap.size ≤ gb531)); have n8_ := Aside0.mk ((by rw [hg]; exact Nat.ne_of_lt (blk_lt (g := gb522) (o := .cells #[.int .i64 a0_0, .int .i64 a0_1] 23 (0, 0)) bkx) : gb522 ≠ gb531)); have n9_ := Aside0.mk ((by rw [hg]; exact Nat.ne_of_gt (blk_lt (g := gb522) (o := .cells #[.int .i64 a0_0, .int .i64 a0_1] 23 (0, 0)) bkx) : gb531 ≠ gb522)); have n10_ := Aside0.mk ((by rw [hg]; exact Nat.ne_of_lt (blk_lt (g := gb523) (o := .cells #[.int .i64 a1_0, .int .i64 a1_1] 23 (0, 0)) bkx) : gb523 ≠ gb531)); have n11_ := Aside0.mk ((by rw [hg]; exact Nat.ne_of_gt (blk_lt (g := gb523) (o := .cells #[.int .i64 a1_0, .int .i64 a1_1] 23 (0, 0)) bkx) : gb531 ≠ gb523)); have n12_ := Aside0.mk ((by rw [hg]; exact Nat.ne_of_lt (blk_lt (g := gb524) (o := .cells #[.int .i64 0, .int .i64 0] 23 (0, 0)) bkx) : gb524 ≠ gb531)); have n13_ := Aside0.mk ((by rw [hg]; exact Nat.ne_of_gt (blk_lt (g := gb524) (o := .cells #[.int .i64 0, .int .i64 0] 23 (0, 0)) bkx) : gb531 ≠ gb524)); clear HO527; clear BK522; clear BK523; clear BK524; clear HB; have HO527 := n0_; have BK522 := n1_; have BK523 := n2_; have BK524 := n3_; have HB := n4_; have BK531 := n5_; have GW531 := n6_; have GE531 := n7_; have NB522_531 := n8_; have NB531_522 := n9_; have NB523_531 := n10_; have NB531_523 := n11_; have NB524_531 := n12_; have NB531_524 := n13_; clear n0_ n1_ n2_ n3_ n4_ n5_ n6_ n7_ n8_ n9_ n10_ n11_ n12_ n13_; clear hb hbox hg; have hnb18 := NB531_522.out; have hnc18 := NB522_531.out; have hnb19 := NB531_523.out; have hnc19 := NB523_531.out; have hnb20 := NB531_524.out; have hnc20 := NB524_531.out; have hcz21_0 : w17.cell? ⟨gb531, 0, none⟩ = some (.int .i64 0) := (blk_cell BK531.out 0).trans rfl; have hcz21_1 : w17.cell? ⟨gb531, 1, none⟩ = some (.int .i64 0) := (blk_cell BK531.out 1).trans rfl; have hfz21_0 := blk_frozen BK531.out 0; have hfz21_1 := blk_frozen BK531.out 1; have hcz22_0 : w17.cell? ⟨gb524, 0, none⟩ = some (.int .i64 0) := (blk_cell BK524.out 0).trans rfl; have hcz22_1 : w17.cell? ⟨gb524, 1, none⟩ = some (.int .i64 0) := (blk_cell BK524.out 1).trans rfl; have hfz22_0 := blk_frozen BK524.out 0; have hfz22_1 := blk_frozen BK524.out 1))
  refine bodyPost_ret (results_cell_row rfl _ _ gb524 23 #[.int .i64 t528, .int .i64 t529] (0, 0) _ rfl (by (with_reducible repeat (first | refine blk_drewN ?_ _ | refine blk_drew ?_ | refine blk_alloc ?_ _)); refine blk_put (cs := #[.int .i64 t528, .int .i64 0]) ?_ 1 _ rfl; (with_reducible repeat (first | refine blk_drewN ?_ _ | refine blk_drew ?_ | refine blk_alloc ?_ _)); refine blk_put (cs := #[.int .i64 0, .int .i64 0]) ?_ 0 _ rfl; (with_reducible repeat (first | refine blk_drewN ?_ _ | refine blk_drew ?_ | refine blk_alloc ?_ _)); refine blk_far ?_ NB524_531.out _; (with_reducible repeat (first | refine blk_drewN ?_ _ | refine blk_drew ?_ | refine blk_alloc ?_ _)); refine blk_far ?_ NB524_531.out _; (with_reducible repeat (first | refine blk_drewN ?_ _ | refine blk_drew ?_ | refine blk_alloc ?_ _)); exact BK524.out) Tryd.underlying23 rfl (by kernel_rfl)) rfl ?_
  exact ⟨by first | rfl | (simp [errW_none, errW_some] <;> rfl) | (simp [*, errW_none, errW_some] <;> rfl), blx⟩
 ·replace c4 := Bool.eq_false_iff.mpr c4
  subst c4
  have H1 : (if a0_0 = 1 then (levyref1_Times.j0 k (a1_0 != 2) a0_0 a0_1 a1_0 a1_1) else (levyref1_Times.j0 k true a0_0 a0_1 a1_0 a1_1)) = some (r1, r2) := by rw [if_neg (show ¬ (false = true) by decide)] at H; exact H
  clear H
  have H := H1
  clear H1
  have HC23 := Aside0.mk H
  clear H
  go_enter Tryd.func42, Tryd.ntmps42
  go_upto_region 4 with (first | ((with_reducible refine gate_dst (N := 2) rfl ?_); refine box_event ?hg (N := 2) ?hd (cs := #[.int .i64 a0_0, .int .i64 a0_1]) (t := 23) ?hr ?_; (case hd => rfl); (case hg => rfl); (case hr => first | (go_simp; done) | (go_simp; rfl)); intro gb522 hg w24 hbox hb; have n0_ := Aside0.mk (below_step blx hb); have n1_ := Aside0.mk (hbox); have n2_ := Aside0.mk ((by rw [hg]; exact (below_size blx) : w.heap.size ≤ gb522)); have n3_ := Aside0.mk ((by rw [hg]; exact (below_size blx) : w.heap.size ≤ gb522)); clear HB; have HB := n0_; have BK522 := n1_; have GW522 := n2_; have GE522 := n3_; clear n0_ n1_ n2_ n3_; clear hb hbox hg) | ((with_reducible refine gate_dst (N := 3) rfl ?_); refine box_event ?hg (N := 3) ?hd (cs := #[.int .i64 a1_0, .int .i64 a1_1]) (t := 23) ?hr ?_; (case hd => rfl); (case hg => rfl); (case hr => first | (go_simp; done) | (go_simp; rfl)); intro gb523 hg w25 hbox hb; have n0_ := Aside0.mk (blk_below (g := gb522) (o := .cells #[.int .i64 a0_0, .int .i64 a0_1] 23 (0, 0)) bkx hb); have n1_ := Aside0.mk (below_step blx hb); have n2_ := Aside0.mk (hbox); have n3_ := Aside0.mk ((by rw [hg]; exact (below_size blx) : w.heap.size ≤ gb523)); have n4_ := Aside0.mk ((by rw [hg]; exact (below_size blx) : w.heap.size ≤ gb523)); have n5_ := Aside0.mk ((by rw [hg]; exact Nat.ne_of_lt (blk_lt (g := gb522) (o := .cells #[.int .i64 a0_0, .int .i64 a0_1] 23 (0, 0)) bkx) : gb522 ≠ gb523)); have n6_ := Aside0.mk ((by rw [hg]; exact Nat.ne_of_gt (blk_lt (g := gb522) (o := .cells #[.int .i64 a0_0, .int .i64 a0_1] 23 (0, 0)) bkx) : gb523 ≠ gb522)); clear BK522; clear HB; have BK522 := n0_; have HB := n1_; have BK523 := n2_; have GW523 := n3_; have GE523 := n4_; have NB522_523 := n5_; have NB523_522 := n6_; clear n0_ n1_ n2_ n3_ n4_ n5_ n6_; clear hb hbox hg) | ((with_reducible refine gate_dst (N := 4) rfl ?_); refine box_event ?hg (N := 4) ?hd (cs := #[.int .i64 0, .int .i64 0]) (t := 23) ?hr ?_; (case hd => rfl); (case hg => rfl); (case hr => first | (go_simp; done) | (go_simp; rfl)); intro gb524 hg w26 hbox hb; have n0_ := Aside0.mk (blk_below (g := gb522) (o := .cells #[.int .i64 a0_0, .int .i64 a0_1] 23 (0, 0)) bkx hb); have n1_ := Aside0.mk (blk_below (g := gb523) (o := .cells #[.int .i64 a1_0, .int .i64 a1_1] 23 (0, 0)) bkx hb); have n2_ := Aside0.mk (below_step blx hb); have n3_ := Aside0.mk (hbox); have n4_ := Aside0.mk ((by rw [hg]; exact (below_size blx) : w.heap.size ≤ gb524)); have n5_ := Aside0.mk ((by rw [hg]; exact (below_size blx) : w.heap.size ≤ gb524)); have n6_ := Aside0.mk ((by rw [hg]; exact Nat.ne_of_lt (blk_lt (g := gb522) (o := .cells #[.int .i64 a0_0, .int .i64 a0_1] 23 (0, 0)) bkx) : gb522 ≠ gb524)); have n7_ := Aside0.mk ((by rw [hg]; exact Nat.ne_of_gt (blk_lt (g := gb522) (o := .cells #[.int .i64 a0_0, .int .i64 a0_1] 23 (0, 0)) bkx) : gb524 ≠ gb522)); have n8_ := Aside0.mk ((by rw [hg]; exact Nat.ne_of_lt (blk_lt (g := gb523) (o := .cells #[.int .i64 a1_0, .int .i64 a1_1] 23 (0, 0)) bkx) : gb523 ≠ gb524)); have n9_ := Aside0.mk ((by rw [hg]; exact Nat.ne_of_gt (blk_lt (g := gb523) (o := .cells #[.int .i64 a1_0, .int .i64 a1_1] 23 (0, 0)) bkx) : gb524 ≠ gb523)); clear BK522; clear BK523; clear HB; have BK522 := n0_; have BK523 := n1_; have HB := n2_; have BK524 := n3_; have GW524 := n4_; have GE524 := n5_; have NB522_524 := n6_; have NB524_522 := n7_; have NB523_524 := n8_; have NB524_523 := n9_; clear n0_ n1_ n2_ n3_ n4_ n5_ n6_ n7_ n8_ n9_; clear hb hbox hg; have hnb27 := NB522_523.out; have hnc27 := NB523_522.out; have hnb28 := NB522_524.out; have hnc28 := NB524_522.out; have hcz29_0 : w26.cell? ⟨gb522, 0, none⟩ = some (.int .i64 a0_0) := (blk_cell BK522.out 0).trans rfl; have hcz29_1 : w26.cell? ⟨gb522, 1, none⟩ = some (.int .i64 a0_1) := (blk_cell BK522.out 1).trans rfl; have hfz29_0 := blk_frozen BK522.out 0; have hfz29_1 := blk_frozen BK522.out 1; have hnb30 := NB523_524.out; have hnc30 := NB524_523.out; have hcz31_0 : w26.cell? ⟨gb523, 0, none⟩ = some (.int .i64 a1_0) := (blk_cell BK523.out 0).trans rfl; have hcz31_1 : w26.cell? ⟨gb523, 1, none⟩ = some (.int .i64 a1_1) := (blk_cell BK523.out 1).trans rfl; have hfz31_0 := blk_frozen BK523.out 0; have hfz31_1 := blk_frozen BK523.out 1) | ((with_reducible refine gate_dst (N := 11) rfl ?_); refine Kd.R_lit k23 _ 23 ?hg (N := 11) ?hd (xs := ([(⟨a0_0, a0_1⟩ : S23), (⟨a1_0, a1_1⟩ : S23)] : List (S23))) (inner := [.int .i64 a0_0, .int .i64 a0_1, .int .i64 a1_0, .int .i64 a1_1]) (ok := fun _ => True) (okp := fun _ => True) ?hr ?hp (fun _ hk => hk) trivial (Below.refl _ _) (Nat.le_refl _) (by simp) ?_; (case hd => rfl); (case hg => rfl); (case hr => first | (go_simp; done) | (go_simp; rfl)); (case hp => exact (Reps.c2 (show Kd.M k23 _ _ _ (⟨a0_0, a0_1⟩ : S23) [.int .i64 a0_0, .int .i64 a0_1] from (k23_mkM _ _ _ (⟨a0_0, a0_1⟩ : S23) )) (Reps.c2 (show Kd.M k23 _ _ _ (⟨a1_0, a1_1⟩ : S23) [.int .i64 a1_0, .int .i64 a1_1] from (k23_mkM _ _ _ (⟨a1_0, a1_1⟩ : S23) )) (Reps.none _ _)))); intro v526 w32 ho33 hb hg_ hnew_; clear hg_ hnew_; (first | rw [← Ny525.out] at ho33 | (simp only [Int.reduceToNat] at ho33; rw [← Ny525.out] at ho33)); have n0_ := Aside0.mk (Kd.R_lower (Kd.R_newB (Kd.R_newB (Kd.R_newB ho33 (g := gb522) (o := .cells #[.int .i64 a0_0, .int .i64 a0_1] 23 (0, 0)) bkx) (g := gb523) (o := .cells #[.int .i64 a1_0, .int .i64 a1_1] 23 (0, 0)) bkx) (g := gb524) (o := .cells #[.int .i64 0, .int .i64 0] 23 (0, 0)) bkx) (below_size blx)); have n1_ := Aside0.mk (blk_below (g := gb522) (o := .cells #[.int .i64 a0_0, .int .i64 a0_1] 23 (0, 0)) bkx hb); have n2_ := Aside0.mk (blk_below (g := gb523) (o := .cells #[.int .i64 a1_0, .int .i64 a1_1] 23 (0, 0)) bkx hb); have n3_ := Aside0.mk (blk_below (g := gb524) (o := .cells #[.int .i64 0, .int .i64 0] 23 (0, 0)) bkx hb); have n4_ := Aside0.mk (below_step blx hb); clear BK522; clear BK523; clear BK524; clear HB; have HO527 := n0_; have BK522 := n1_; have BK523 := n2_; have BK524 := n3_; have HB := n4_; clear n0_ n1_ n2_ n3_ n4_; clear hb ho33; obtain ⟨Ao34, co34, eo34⟩ := Kd.R_slice HO527.out; subst eo34) | ((with_reducible refine gate_callee (f := 63) rfl ?_); refine goesL_ (some 12) rfl rfl Tryd.func63 (by kernel_rfl) rfl #[.slice Ao34 y525.length co34] rfl agx ?_; (with_reducible refine (levyref1_looked.calls k _ _ y525 t528 t529 false _ ?side1 ?side2 A3.out).mono ?_); (case side1 => repeat (first | exact (Kd.R_reads' HO527.out).2.2 | (with_reducible refine Kd.C_alloc ?_ _) | (with_reducible refine Kd.C_drewN ?_ _) | (with_reducible refine Kd.C_drew ?_))); (case side2 => exact (Kd.R_reads' HO527.out).2.1); rintro e w35 ⟨rfl, hb⟩; refine ⟨_, rfl, ?_⟩; have n0_ := Aside0.mk (Kd.R_below (by (with_reducible repeat (first | apply Kd.R_alloc | apply Kd.R_drewN | apply Kd.R_drew)); exact HO527.out) hb); have n1_ := Aside0.mk (blk_below (g := gb522) (o := .cells #[.int .i64 a0_0, .int .i64 a0_1] 23 (0, 0)) bkx hb); have n2_ := Aside0.mk (blk_below (g := gb523) (o := .cells #[.int .i64 a1_0, .int .i64 a1_1] 23 (0, 0)) bkx hb); have n3_ := Aside0.mk (blk_below (g := gb524) (o := .cells #[.int .i64 0, .int .i64 0] 23 (0, 0)) bkx hb); have n4_ := Aside0.mk (below_step blx hb); clear HO527; clear BK522; clear BK523; clear BK524; clear HB; have HO527 := n0_; have BK522 := n1_; have BK523 := n2_; have BK524 := n3_; have HB := n4_; clear n0_ n1_ n2_ n3_ n4_; (try clear hb); (try clear hb2); (try clear hk); (try clear hi)) | ((with_reducible refine gate_dst (N := 5) rfl ?_); refine box_event ?hg (N := 5) ?hd (cs := #[.int .i64 0, .int .i64 0]) (t := 23) ?hr ?_; (case hd => rfl); (case hg => rfl); (case hr => first | (go_simp; done) | (go_simp; rfl)); intro gb531 hg w36 hbox hb; have n0_ := Aside0.mk (Kd.R_below (Kd.R_elderB (by (with_reducible repeat (first | apply Kd.R_alloc | apply Kd.R_drewN | apply Kd.R_drew)); exact HO527.out) gb531 (Nat.le_of_eq hg.symm)) hb); have n1_ := Aside0.mk (blk_below (g := gb522) (o := .cells #[.int .i64 a0_0, .int .i64 a0_1] 23 (0, 0)) bkx hb); have n2_ := Aside0.mk (blk_below (g := gb523) (o := .cells #[.int .i64 a1_0, .int .i64 a1_1] 23 (0, 0)) bkx hb); have n3_ := Aside0.mk (blk_below (g := gb524) (o := .cells #[.int .i64 0, .int .i64 0] 23 (0, 0)) bkx hb); have n4_ := Aside0.mk (below_step blx hb); have n5_ := Aside0.mk (hbox); have n6_ := Aside0.mk ((by rw [hg]; exact (below_size blx) : w.heap.size ≤ gb531)); have n7_ := Aside0.mk ((by rw [hg]; exact (below_size blx) : w.heap.size ≤ gb531)); have n8_ := Aside0.mk ((by rw [hg]; exact Nat.ne_of_lt (blk_lt (g := gb522) (o := .cells #[.int .i64 a0_0, .int .i64 a0_1] 23 (0, 0)) bkx) : gb522 ≠ gb531)); have n9_ := Aside0.mk ((by rw [hg]; exact Nat.ne_of_gt (blk_lt (g := gb522) (o := .cells #[.int .i64 a0_0, .int .i64 a0_1] 23 (0, 0)) bkx) : gb531 ≠ gb522)); have n10_ := Aside0.mk ((by rw [hg]; exact Nat.ne_of_lt (blk_lt (g := gb523) (o := .cells #[.int .i64 a1_0, .int .i64 a1_1] 23 (0, 0)) bkx) : gb523 ≠ gb531)); have n11_ := Aside0.mk ((by rw [hg]; exact Nat.ne_of_gt (blk_lt (g := gb523) (o := .cells #[.int .i64 a1_0, .int .i64 a1_1] 23 (0, 0)) bkx) : gb531 ≠ gb523)); have n12_ := Aside0.mk ((by rw [hg]; exact Nat.ne_of_lt (blk_lt (g := gb524) (o := .cells #[.int .i64 0, .int .i64 0] 23 (0, 0)) bkx) : gb524 ≠ gb531)); have n13_ := Aside0.mk ((by rw [hg]; exact Nat.ne_of_gt (blk_lt (g := gb524) (o := .cells #[.int .i64 0, .int .i64 0] 23 (0, 0)) bkx) : gb531 ≠ gb524)); clear HO527; clear BK522; clear BK523; clear BK524; clear HB; have HO527 := n0_; have BK522 := n1_; have BK523 := n2_; have BK524 := n3_; have HB := n4_; have BK531 := n5_; have GW531 := n6_; have GE531 := n7_; have NB522_531 := n8_; have NB531_522 := n9_; have NB523_531 := n10_; have NB531_523 := n11_; have NB524_531 := n12_; have NB531_524 := n13_; clear n0_ n1_ n2_ n3_ n4_ n5_ n6_ n7_ n8_ n9_ n10_ n11_ n12_ n13_; clear hb hbox hg; have hnb37 := NB531_522.out; have hnc37 := NB522_531.out; have hnb38 := NB531_523.out; have hnc38 := NB523_531.out; have hnb39 := NB531_524.out; have hnc39 := NB524_531.out; have hcz40_0 : w36.cell? ⟨gb531, 0, none⟩ = some (.int .i64 0) := (blk_cell BK531.out 0).trans rfl; have hcz40_1 : w36.cell? ⟨gb531, 1, none⟩ = some (.int .i64 0) := (blk_cell BK531.out 1).trans rfl; have hfz40_0 := blk_frozen BK531.out 0; have hfz40_1 := blk_frozen BK531.out 1))
  (try simp only [Act.put, List.setIfInBounds_toArray, List.set_cons_zero, List.set_cons_succ])
  go_cut [24] (fun v24 wc => ∃ (kq : Nat) (x24_22 : Bool), v24 = .bool x24_22 ∧ Aside0 (levyref1_Times.j0 kq x24_22 a0_0 a0_1 a1_0 a1_1 = some (r1, r2)) ∧ Aside0 (kq ≤ k) ∧ Aside0 (wc.heap[gb522]? = some (.cells #[.int .i64 a0_0, .int .i64 a0_1] 23 (0, 0))) ∧ Aside0 (wc.heap[gb523]? = some (.cells #[.int .i64 a1_0, .int .i64 a1_1] 23 (0, 0))) ∧ Aside0 (wc.heap[gb524]? = some (.cells #[.int .i64 0, .int .i64 0] 23 (0, 0))) ∧ Aside0 (wc.heap[gb531]? = some (.cells #[.int .i64 t528, .int .i64 t529] 23 (0, 0))) ∧ Aside0 (Below w.heap.size w wc))
  case first =>
   have H := HC23.out
   clear HC23
   by_cases c41 : a0_0 = 1
   ·rw [if_pos c41] at H
    have c41b0 : (a0_0 == 1) = true := beq_iff_eq.mpr c41
    have c41b1 : (a0_0 != 1) = false := bne_eq_false_iff_eq.mpr c41
    clear c41
    (first | rw [c41b0] | (simp only [i64_w, i32_w]; rw [c41b0]) | skip)
    have H' := Aside0.mk H
    clear H
    have hnb42 := NB522_523.out
    have hnc42 := NB523_522.out
    have hnb43 := NB522_524.out
    have hnc43 := NB524_522.out
    have hnb44 := NB522_531.out
    have hnc44 := NB531_522.out
    have hcz45_0 : w36.cell? ⟨gb522, 0, none⟩ = some (.int .i64 a0_0) := (blk_cell BK522.out 0).trans rfl
    have hcz45_1 : w36.cell? ⟨gb522, 1, none⟩ = some (.int .i64 a0_1) := (blk_cell BK522.out 1).trans rfl
    have hfz45_0 := blk_frozen BK522.out 0
    have hfz45_1 := blk_frozen BK522.out 1
    have hnb46 := NB523_524.out
    have hnc46 := NB524_523.out
    have hnb47 := NB523_531.out
    have hnc47 := NB531_523.out
    have hcz48_0 : w36.cell? ⟨gb523, 0, none⟩ = some (.int .i64 a1_0) := (blk_cell BK523.out 0).trans rfl
    have hcz48_1 : w36.cell? ⟨gb523, 1, none⟩ = some (.int .i64 a1_1) := (blk_cell BK523.out 1).trans rfl
    have hfz48_0 := blk_frozen BK523.out 0
    have hfz48_1 := blk_frozen BK523.out 1
    go_wp2
    go_meet
    case rel => exact ⟨_, ((a1_0 != 2)), (by first | rfl | (simp; done) | (simp [*]; done)), H', ⟨by first | omega | exact Nat.le_refl _⟩, ⟨bkx⟩, ⟨bkx⟩, ⟨bkx⟩, ⟨by (with_reducible repeat (first | refine blk_drewN ?_ _ | refine blk_drew ?_ | refine blk_alloc ?_ _)); refine blk_put (cs := #[.int .i64 t528, .int .i64 0]) ?_ 1 _ rfl; (with_reducible repeat (first | refine blk_drewN ?_ _ | refine blk_drew ?_ | refine blk_alloc ?_ _)); refine blk_put (cs := #[.int .i64 0, .int .i64 0]) ?_ 0 _ rfl; (with_reducible repeat (first | refine blk_drewN ?_ _ | refine blk_drew ?_ | refine blk_alloc ?_ _)); exact BK531.out⟩, ⟨blx⟩⟩
   ·rw [if_neg c41] at H
    have c41b0 : (a0_0 == 1) = false := beq_eq_false_iff_ne.mpr c41
    have c41b1 : (a0_0 != 1) = true := bne_iff_ne.mpr c41
    (first | rw [c41b0] | (simp only [i64_w, i32_w]; rw [c41b0]) | skip)
    have H' := Aside0.mk H
    clear H
    have hnb49 := NB522_523.out
    have hnc49 := NB523_522.out
    have hnb50 := NB522_524.out
    have hnc50 := NB524_522.out
    have hnb51 := NB522_531.out
    have hnc51 := NB531_522.out
    have hcz52_0 : w36.cell? ⟨gb522, 0, none⟩ = some (.int .i64 a0_0) := (blk_cell BK522.out 0).trans rfl
    have hcz52_1 : w36.cell? ⟨gb522, 1, none⟩ = some (.int .i64 a0_1) := (blk_cell BK522.out 1).trans rfl
    have hfz52_0 := blk_frozen BK522.out 0
    have hfz52_1 := blk_frozen BK522.out 1
    go_wp2
    go_meet
    case rel => exact ⟨_, (true), (by first | rfl | (simp; done) | (simp [*]; done)), H', ⟨by first | omega | exact Nat.le_refl _⟩, ⟨bkx⟩, ⟨bkx⟩, ⟨bkx⟩, ⟨by (with_reducible repeat (first | refine blk_drewN ?_ _ | refine blk_drew ?_ | refine blk_alloc ?_ _)); refine blk_put (cs := #[.int .i64 t528, .int .i64 0]) ?_ 1 _ rfl; (with_reducible repeat (first | refine blk_drewN ?_ _ | refine blk_drew ?_ | refine blk_alloc ?_ _)); refine blk_put (cs := #[.int .i64 0, .int .i64 0]) ?_ 0 _ rfl; (with_reducible repeat (first | refine blk_drewN ?_ _ | refine blk_drew ?_ | refine blk_alloc ?_ _)); exact BK531.out⟩, ⟨blx⟩⟩
  case rest =>
   clear HC23
   try clear c1
   try clear c2
   try clear p2
   try clear c3
   try clear c4
   try clear c5
   try clear c6
   try clear c8
   try clear c9
   try clear c11
   try clear c18
   try clear c19
   try clear c20
   try clear c27
   try clear c28
   try clear c30
   try clear c37
   try clear c38
   try clear c39
   try clear c41
   try clear c41b0
   try clear c41b1
   try clear c42
   try clear c43
   try clear c44
   try clear c46
   try clear c47
   try clear c49
   try clear c50
   try clear c51
   try clear hcz10_0
   try clear hcz10_1
   try clear hcz12_0
   try clear hcz12_1
   try clear hcz21_0
   try clear hcz21_1
   try clear hcz22_0
   try clear hcz22_1
   try clear hcz29_0
   try clear hcz29_1
   try clear hcz31_0
   try clear hcz31_1
   try clear hcz40_0
   try clear hcz40_1
   try clear hcz45_0
   try clear hcz45_1
   try clear hcz48_0
   try clear hcz48_1
   try clear hcz52_0
   try clear hcz52_1
   try clear hfz10_0
   try clear hfz10_1
   try clear hfz12_0
   try clear hfz12_1
   try clear hfz21_0
   try clear hfz21_1
   try clear hfz22_0
   try clear hfz22_1
   try clear hfz29_0
   try clear hfz29_1
   try clear hfz31_0
   try clear hfz31_1
   try clear hfz40_0
   try clear hfz40_1
   try clear hfz45_0
   try clear hfz45_1
   try clear hfz48_0
   try clear hfz48_1
   try clear hfz52_0
   try clear hfz52_1
   obtain ⟨kq, x24_22, rfl, HA, HJ22, BK522, BK523, BK524, BK531, HB⟩ := hcut
   cases kq with
   | zero => exact absurd HA.out (by simp [levyref1_Times.j0])
   | succ kj22 =>
    have H := HA.out
    clear HA
    simp only [levyref1_Times.j0] at H
    by_cases c53 : x24_22 = true
    ·subst c53
     have H1 : ((levyref1_bad.f 5).bind fun bt532 => (some (bt532.1, bt532.2))) = some (r1, r2) := by rw [if_pos rfl] at H; exact H
     clear H
     have H := H1
     clear H1
     replace H := Option.bind_eq_some_iff.mp H
     obtain ⟨⟨t532, t533⟩, A540, H⟩ := H
     replace H : (some (t532, t533)) = some (r1, r2) := H
     have A54 := Aside0.mk A540
     clear A540
     simp only [Option.some.injEq, Prod.mk.injEq] at H
     obtain ⟨rfl, rfl⟩ := H
     go_wp2_with (first | ((with_reducible refine gate_callee (f := 57) rfl ?_); refine goesL_ (some 25) rfl rfl Tryd.func57 (by kernel_rfl) rfl #[.int .i64 5] rfl agx ?_; (with_reducible refine (levyref1_bad.calls 5 t532 t533 _ A54.out).mono ?_); rintro e w55 ⟨rfl, hb⟩; refine ⟨_, rfl, ?_⟩; have n0_ := Aside0.mk (blk_below (g := gb522) (o := .cells #[.int .i64 a0_0, .int .i64 a0_1] 23 (0, 0)) bkx hb); have n1_ := Aside0.mk (blk_below (g := gb523) (o := .cells #[.int .i64 a1_0, .int .i64 a1_1] 23 (0, 0)) bkx hb); have n2_ := Aside0.mk (blk_below (g := gb524) (o := .cells #[.int .i64 0, .int .i64 0] 23 (0, 0)) bkx hb); have n3_ := Aside0.mk (blk_below (g := gb531) (o := .cells #[.int .i64 t528, .int .i64 t529] 23 (0, 0)) bkx hb); have n4_ := Aside0.mk (below_step blx hb); clear BK522; clear BK523; clear BK524; clear BK531; clear HB; have BK522 := n0_; have BK523 := n1_; have BK524 := n2_; have BK531 := n3_; have HB := n4_; clear n0_ n1_ n2_ n3_ n4_; (try clear hb); (try clear hb2); (try clear hk); (try clear hi); have hnb56 := NB524_522.out; have hnc56 := NB522_524.out; have hnb57 := NB524_523.out; have hnc57 := NB523_524.out; have hnb58 := NB524_531.out; have hnc58 := NB531_524.out; have hcz59_0 : w55.cell? ⟨gb524, 0, none⟩ = some (.int .i64 0) := (blk_cell BK524.out 0).trans rfl; have hcz59_1 : w55.cell? ⟨gb524, 1, none⟩ = some (.int .i64 0) := (blk_cell BK524.out 1).trans rfl; have hfz59_0 := blk_frozen BK524.out 0; have hfz59_1 := blk_frozen BK524.out 1))
     refine bodyPost_ret (results_cell_row rfl _ _ gb524 23 #[.int .i64 t532, .int .i64 t533] (0, 0) _ rfl (by (with_reducible repeat (first | refine blk_drewN ?_ _ | refine blk_drew ?_ | refine blk_alloc ?_ _)); refine blk_put (cs := #[.int .i64 t532, .int .i64 0]) ?_ 1 _ rfl; (with_reducible repeat (first | refine blk_drewN ?_ _ | refine blk_drew ?_ | refine blk_alloc ?_ _)); refine blk_put (cs := #[.int .i64 0, .int .i64 0]) ?_ 0 _ rfl; (with_reducible repeat (first | refine blk_drewN ?_ _ | refine blk_drew ?_ | refine blk_alloc ?_ _)); exact BK524.out) Tryd.underlying23 rfl (by kernel_rfl)) rfl ?_
     exact ⟨by first | rfl | (simp [errW_none, errW_some] <;> rfl) | (simp [*, errW_none, errW_some] <;> rfl), blx⟩
    ·replace c53 := Bool.eq_false_iff.mpr c53
     subst c53
     have H1 : ((levyref1_size.f a0_1).bind fun t534 => ((levyref1_digits.f kj22 t534).bind fun t535 => ((levyref1_size.f a1_1).bind fun t538 => ((levyref1_digits.f kj22 t538).bind fun t539 => ((levyref1_product.f kj22 t535 t539).bind fun t542 => ((levyref1_rounded.f kj22 t542 ((decide (a0_1 < 0)) != (decide (a1_1 < 0))) 1 1).bind fun t545 => ((levyref1_bounded.f 1 t545).bind fun bt546 => (some (bt546.1, bt546.2))))))))) = some (r1, r2) := by rw [if_neg (show ¬ (false = true) by decide)] at H; exact H
     clear H
     have H := H1
     clear H1
     replace H := Option.bind_eq_some_iff.mp H
     obtain ⟨t534, A600, H⟩ := H
     replace H : ((levyref1_digits.f kj22 t534).bind fun t535 => ((levyref1_size.f a1_1).bind fun t538 => ((levyref1_digits.f kj22 t538).bind fun t539 => ((levyref1_product.f kj22 t535 t539).bind fun t542 => ((levyref1_rounded.f kj22 t542 ((decide (a0_1 < 0)) != (decide (a1_1 < 0))) 1 1).bind fun t545 => ((levyref1_bounded.f 1 t545).bind fun bt546 => (some (bt546.1, bt546.2)))))))) = some (r1, r2) := H
     have A60 := Aside0.mk A600
     clear A600
     replace H := Option.bind_eq_some_iff.mp H
     obtain ⟨t535, A610, H⟩ := H
     replace H : ((levyref1_size.f a1_1).bind fun t538 => ((levyref1_digits.f kj22 t538).bind fun t539 => ((levyref1_product.f kj22 t535 t539).bind fun t542 => ((levyref1_rounded.f kj22 t542 ((decide (a0_1 < 0)) != (decide (a1_1 < 0))) 1 1).bind fun t545 => ((levyref1_bounded.f 1 t545).bind fun bt546 => (some (bt546.1, bt546.2))))))) = some (r1, r2) := H
     have A61 := Aside0.mk A610
     clear A610
     replace H := Option.bind_eq_some_iff.mp H
     obtain ⟨t538, A620, H⟩ := H
     replace H : ((levyref1_digits.f kj22 t538).bind fun t539 => ((levyref1_product.f kj22 t535 t539).bind fun t542 => ((levyref1_rounded.f kj22 t542 ((decide (a0_1 < 0)) != (decide (a1_1 < 0))) 1 1).bind fun t545 => ((levyref1_bounded.f 1 t545).bind fun bt546 => (some (bt546.1, bt546.2)))))) = some (r1, r2) := H
     have A62 := Aside0.mk A620
     clear A620
     replace H := Option.bind_eq_some_iff.mp H
     obtain ⟨t539, A630, H⟩ := H
     replace H : ((levyref1_product.f kj22 t535 t539).bind fun t542 => ((levyref1_rounded.f kj22 t542 ((decide (a0_1 < 0)) != (decide (a1_1 < 0))) 1 1).bind fun t545 => ((levyref1_bounded.f 1 t545).bind fun bt546 => (some (bt546.1, bt546.2))))) = some (r1, r2) := H
     have A63 := Aside0.mk A630
     clear A630
     replace H := Option.bind_eq_some_iff.mp H
     obtain ⟨t542, A640, H⟩ := H
     replace H : ((levyref1_rounded.f kj22 t542 ((decide (a0_1 < 0)) != (decide (a1_1 < 0))) 1 1).bind fun t545 => ((levyref1_bounded.f 1 t545).bind fun bt546 => (some (bt546.1, bt546.2)))) = some (r1, r2) := H
     have A64 := Aside0.mk A640
     clear A640
     replace H := Option.bind_eq_some_iff.mp H
     obtain ⟨t545, A650, H⟩ := H
     replace H : ((levyref1_bounded.f 1 t545).bind fun bt546 => (some (bt546.1, bt546.2))) = some (r1, r2) := H
     have A65 := Aside0.mk A650
     clear A650
     replace H := Option.bind_eq_some_iff.mp H
     obtain ⟨⟨t546, t547⟩, A660, H⟩ := H
     replace H : (some (t546, t547)) = some (r1, r2) := H
     have A66 := Aside0.mk A660
     clear A660
     simp only [Option.some.injEq, Prod.mk.injEq] at H
     obtain ⟨rfl, rfl⟩ := H
     try go_wp2
     have n0_ := Aside0.mk (blk_drew BK522.out)
     have n1_ := Aside0.mk (blk_drew BK523.out)
     have n2_ := Aside0.mk (blk_drew BK524.out)
     have n3_ := Aside0.mk (blk_drew BK531.out)
     have n4_ := Aside0.mk (below_drew1 HB.out)
     clear BK522
     clear BK523
     clear BK524
     clear BK531
     clear HB
     have BK522 := n0_
     have BK523 := n1_
     have BK524 := n2_
     have BK531 := n3_
     have HB := n4_
     clear n0_ n1_ n2_ n3_ n4_
     refine start_ (n := 10) (S := fun w' => w'.cell? ⟨gb522, 0, none⟩ = some (.int .i64 a0_0) ∧ w'.cell? ⟨gb522, 1, none⟩ = some (.int .i64 a0_1) ∧ w'.cell? ⟨gb523, 0, none⟩ = some (.int .i64 a1_0) ∧ w'.cell? ⟨gb523, 1, none⟩ = some (.int .i64 a1_1)) (ds := []) #[false, false, false, false, false, false, false, false, false, false] (by kernel_rfl) rfl rfl ⟨(blk_cell BK522.out 0).trans rfl, (blk_cell BK522.out 1).trans rfl, (blk_cell BK523.out 0).trans rfl, (blk_cell BK523.out 1).trans rfl⟩ (fun hHeld => ?_); refine with_tabW levyref1_Times.tab6 levyref1_Times.bits6 (fun HT_ HW_ => ?_)
     generalize wc.drew = w67 at BK522 BK523 BK524 BK531 HB hHeld ⊢
     refine pure_ (i := 0) (N := some 26) (v := ?_) (a' := ?_) #[true, false, false, false, false, false, false, false, false, false] rfl rfl (any_of HT_.out (by kernel_rfl)) (fun _ _ _ h => h) (Or.inl ⟨by rfl, ?_⟩) ?_ ?_
     rotate_left
     ·intro w'
      go_simp
      with_reducible rfl
     rotate_left
     ·simp only [Act.put, List.setIfInBounds_toArray, List.set_cons_zero, List.set_cons_succ, i64_w, i32_w]
      rfl
     refine pure_ (i := 4) (N := some 30) (v := ?_) (a' := ?_) #[true, false, false, false, true, false, false, false, false, false] rfl rfl (any_of HT_.out (by kernel_rfl)) (fun _ _ _ h => h) (Or.inl ⟨by rfl, ?_⟩) ?_ ?_
     rotate_left
     ·intro w'
      go_simp
      with_reducible rfl
     rotate_left
     ·simp only [Act.put, List.setIfInBounds_toArray, List.set_cons_zero, List.set_cons_succ, i64_w, i32_w]
      rfl
     refine take_ (i := 1) (N := some 27) (v := ?_) (a' := ?_) #[true, true, false, false, true, false, false, false, false, false] rfl rfl (take_ofW HT_.out HW_.out (by kernel_rfl)) (fun _ _ _ h => h) (Or.inl ⟨by rfl, ?_⟩) hHeld ?_ ?_
     rotate_left
     ·rintro w' ⟨s0, s1, s2, s3⟩
      go_simp
      with_reducible rfl
     rotate_left
     ·simp only [Act.put, List.setIfInBounds_toArray, List.set_cons_zero, List.set_cons_succ, i64_w, i32_w]
      rfl
     refine take_ (i := 5) (N := some 31) (v := ?_) (a' := ?_) #[true, true, false, false, true, true, false, false, false, false] rfl rfl (take_ofW HT_.out HW_.out (by kernel_rfl)) (fun _ _ _ h => h) (Or.inl ⟨by rfl, ?_⟩) hHeld ?_ ?_
     rotate_left
     ·rintro w' ⟨s0, s1, s2, s3⟩
      go_simp
      with_reducible rfl
     rotate_left
     ·simp only [Act.put, List.setIfInBounds_toArray, List.set_cons_zero, List.set_cons_succ, i64_w, i32_w]
      rfl
     refine one_ (i := 2) (N := some 28) #[true, true, true, false, true, true, false, false, false, false] rfl rfl (one_of HT_.out (by kernel_rfl)) (by decide) (fun K hK => ?_)
     refine goes_ Tryd.func73 (by kernel_rfl) rfl #[.int .i64 a0_1] (by rfl) rfl rfl agx ?_
     with_reducible refine (levyref1_size.calls a0_1 t534 _ A60.out).mono ?_
     rintro e w68 ⟨rfl, hb⟩
     refine ⟨_, rfl, ?_⟩
     have n0_ := Aside0.mk (blk_below (g := gb522) (o := .cells #[.int .i64 a0_0, .int .i64 a0_1] 23 (0, 0)) bkx hb)
     have n1_ := Aside0.mk (blk_below (g := gb523) (o := .cells #[.int .i64 a1_0, .int .i64 a1_1] 23 (0, 0)) bkx hb)
     have n2_ := Aside0.mk (blk_below (g := gb524) (o := .cells #[.int .i64 0, .int .i64 0] 23 (0, 0)) bkx hb)
     have n3_ := Aside0.mk (blk_below (g := gb531) (o := .cells #[.int .i64 t528, .int .i64 t529] 23 (0, 0)) bkx hb)
     have n4_ := Aside0.mk (below_step blx hb)
     clear BK522
     clear BK523
     clear BK524
     clear BK531
     clear HB
     have BK522 := n0_
     have BK523 := n1_
     have BK524 := n2_
     have BK531 := n3_
     have HB := n4_
     clear n0_ n1_ n2_ n3_ n4_
     (try clear hb)
     (try clear hb2)
     (try clear hk)
     (try clear hi)
     refine hK.out _ _ ⟨(blk_cell BK522.out 0).trans rfl, (blk_cell BK522.out 1).trans rfl, (blk_cell BK523.out 0).trans rfl, (blk_cell BK523.out 1).trans rfl⟩ (fun hHeld => ?_)
     clear hK K
     refine norm_ (a' := ?_) ?_ ?_
     rotate_left
     ·show Act.put _ (some 28) _ = _
      simp only [Act.put, List.setIfInBounds_toArray, List.set_cons_zero, List.set_cons_succ, i64_w, i32_w]
      rfl
     refine one_ (i := 3) (N := some 29) #[true, true, true, true, true, true, false, false, false, false] rfl rfl (one_of HT_.out (by kernel_rfl)) (by decide) (fun K hK => ?_)
     refine goes_ Tryd.func72 (by kernel_rfl) rfl #[.int .i64 t534] (by rfl) rfl rfl agx ?_
     with_reducible refine (levyref1_digits.calls kj22 t534 t535 _ A61.out).mono ?_
     rintro e w69 ⟨v536, rfl, ho0, hb⟩
     refine ⟨_, rfl, ?_⟩
     have n0_ := Aside0.mk (Kd.R_lower ho0 (below_size blx))
     have n1_ := Aside0.mk (blk_below (g := gb522) (o := .cells #[.int .i64 a0_0, .int .i64 a0_1] 23 (0, 0)) bkx hb)
     have n2_ := Aside0.mk (blk_below (g := gb523) (o := .cells #[.int .i64 a1_0, .int .i64 a1_1] 23 (0, 0)) bkx hb)
     have n3_ := Aside0.mk (blk_below (g := gb524) (o := .cells #[.int .i64 0, .int .i64 0] 23 (0, 0)) bkx hb)
     have n4_ := Aside0.mk (blk_below (g := gb531) (o := .cells #[.int .i64 t528, .int .i64 t529] 23 (0, 0)) bkx hb)
     have n5_ := Aside0.mk (below_step blx hb)
     clear BK522
     clear BK523
     clear BK524
     clear BK531
     clear HB
     have HO537 := n0_
     have BK522 := n1_
     have BK523 := n2_
     have BK524 := n3_
     have BK531 := n4_
     have HB := n5_
     clear n0_ n1_ n2_ n3_ n4_ n5_
     (try clear hb)
     (try clear hb2)
     (try clear hk)
     (try clear hi)
     (try clear ho0)
     refine hK.out _ _ ⟨(blk_cell BK522.out 0).trans rfl, (blk_cell BK522.out 1).trans rfl, (blk_cell BK523.out 0).trans rfl, (blk_cell BK523.out 1).trans rfl⟩ (fun hHeld => ?_)
     clear hK K
     refine norm_ (a' := ?_) ?_ ?_
     rotate_left
     ·show Act.put _ (some 29) _ = _
      simp only [Act.put, List.setIfInBounds_toArray, List.set_cons_zero, List.set_cons_succ, i64_w, i32_w]
      rfl
     refine one_ (i := 6) (N := some 32) #[true, true, true, true, true, true, true, false, false, false] rfl rfl (one_of HT_.out (by kernel_rfl)) (by decide) (fun K hK => ?_)
     refine goes_ Tryd.func73 (by kernel_rfl) rfl #[.int .i64 a1_1] (by rfl) rfl rfl agx ?_
     with_reducible refine (levyref1_size.calls a1_1 t538 _ A62.out).mono ?_
     rintro e w70 ⟨rfl, hb⟩
     refine ⟨_, rfl, ?_⟩
     have n0_ := Aside0.mk (Kd.R_below (by (with_reducible repeat (first | apply Kd.R_alloc | apply Kd.R_drewN | apply Kd.R_drew)); exact HO537.out) hb)
     have n1_ := Aside0.mk (blk_below (g := gb522) (o := .cells #[.int .i64 a0_0, .int .i64 a0_1] 23 (0, 0)) bkx hb)
     have n2_ := Aside0.mk (blk_below (g := gb523) (o := .cells #[.int .i64 a1_0, .int .i64 a1_1] 23 (0, 0)) bkx hb)
     have n3_ := Aside0.mk (blk_below (g := gb524) (o := .cells #[.int .i64 0, .int .i64 0] 23 (0, 0)) bkx hb)
     have n4_ := Aside0.mk (blk_below (g := gb531) (o := .cells #[.int .i64 t528, .int .i64 t529] 23 (0, 0)) bkx hb)
     have n5_ := Aside0.mk (below_step blx hb)
     clear HO537
     clear BK522
     clear BK523
     clear BK524
     clear BK531
     clear HB
     have HO537 := n0_
     have BK522 := n1_
     have BK523 := n2_
     have BK524 := n3_
     have BK531 := n4_
     have HB := n5_
     clear n0_ n1_ n2_ n3_ n4_ n5_
     (try clear hb)
     (try clear hb2)
     (try clear hk)
     (try clear hi)
     refine hK.out _ _ ⟨(blk_cell BK522.out 0).trans rfl, (blk_cell BK522.out 1).trans rfl, (blk_cell BK523.out 0).trans rfl, (blk_cell BK523.out 1).trans rfl⟩ (fun hHeld => ?_)
     clear hK K
     refine norm_ (a' := ?_) ?_ ?_
     rotate_left
     ·show Act.put _ (some 32) _ = _
      simp only [Act.put, List.setIfInBounds_toArray, List.set_cons_zero, List.set_cons_succ, i64_w, i32_w]
      rfl
     refine one_ (i := 7) (N := some 33) #[true, true, true, true, true, true, true, true, false, false] rfl rfl (one_of HT_.out (by kernel_rfl)) (by decide) (fun K hK => ?_)
     refine goes_ Tryd.func72 (by kernel_rfl) rfl #[.int .i64 t538] (by rfl) rfl rfl agx ?_
     with_reducible refine (levyref1_digits.calls kj22 t538 t539 _ A63.out).mono ?_
     rintro e w71 ⟨v540, rfl, ho0, hb⟩
     refine ⟨_, rfl, ?_⟩
     have n0_ := Aside0.mk (Kd.R_elder' (by (with_reducible repeat (first | apply Kd.R_alloc | apply Kd.R_drewN | apply Kd.R_drew)); exact HO537.out) (Kd.R_base ho0) hb)
     have n1_ := Aside0.mk (Kd.R_lower (Kd.R_new' ho0 (Kd.R_lt (by (with_reducible repeat (first | apply Kd.R_alloc | apply Kd.R_drewN | apply Kd.R_drew)); exact HO537.out))) (below_size blx))
     have n2_ := Aside0.mk (blk_below (g := gb522) (o := .cells #[.int .i64 a0_0, .int .i64 a0_1] 23 (0, 0)) bkx hb)
     have n3_ := Aside0.mk (blk_below (g := gb523) (o := .cells #[.int .i64 a1_0, .int .i64 a1_1] 23 (0, 0)) bkx hb)
     have n4_ := Aside0.mk (blk_below (g := gb524) (o := .cells #[.int .i64 0, .int .i64 0] 23 (0, 0)) bkx hb)
     have n5_ := Aside0.mk (blk_below (g := gb531) (o := .cells #[.int .i64 t528, .int .i64 t529] 23 (0, 0)) bkx hb)
     have n6_ := Aside0.mk (below_step blx hb)
     clear HO537
     clear BK522
     clear BK523
     clear BK524
     clear BK531
     clear HB
     have HO537 := n0_
     have HO541 := n1_
     have BK522 := n2_
     have BK523 := n3_
     have BK524 := n4_
     have BK531 := n5_
     have HB := n6_
     clear n0_ n1_ n2_ n3_ n4_ n5_ n6_
     (try clear hb)
     (try clear hb2)
     (try clear hk)
     (try clear hi)
     (try clear ho0)
     obtain ⟨Ao72, co72, eo72⟩ := Kd.R_slice HO537.out
     (first | subst eo72 | (injection eo72 with f1_ f2_ f3_; have f4_ := f1_.symm; have f5_ := f3_.symm; clear f1_ f2_ f3_; subst f4_; subst f5_))
     obtain ⟨Ao73, co73, eo73⟩ := Kd.R_slice HO541.out
     (first | subst eo73 | (injection eo73 with f1_ f2_ f3_; have f4_ := f1_.symm; have f5_ := f3_.symm; clear f1_ f2_ f3_; subst f4_; subst f5_))
     refine hK.out _ _ ⟨(blk_cell BK522.out 0).trans rfl, (blk_cell BK522.out 1).trans rfl, (blk_cell BK523.out 0).trans rfl, (blk_cell BK523.out 1).trans rfl⟩ (fun hHeld => ?_)
     clear hK K
     refine norm_ (a' := ?_) ?_ ?_
     rotate_left
     ·show Act.put _ (some 33) _ = _
      simp only [Act.put, List.setIfInBounds_toArray, List.set_cons_zero, List.set_cons_succ, i64_w, i32_w]
      rfl
     refine one_ (i := 8) (N := some 34) #[true, true, true, true, true, true, true, true, true, false] rfl rfl (one_of HT_.out (by kernel_rfl)) (by decide) (fun K hK => ?_)
     refine goes_ Tryd.func76 (by kernel_rfl) rfl #[.slice Ao72 t535.length co72, .slice Ao73 t539.length co73] (by rfl) rfl rfl agx ?_
     with_reducible refine (levyref1_product.calls kj22 _ _ t535 _ _ t539 t542 _ ?side1 ?side2 ?side3 ?side4 A64.out).mono ?_
     (case side1 => repeat (first | exact (Kd.R_reads' HO537.out).2.2 | (with_reducible refine Kd.C_alloc ?_ _) | (with_reducible refine Kd.C_drewN ?_ _) | (with_reducible refine Kd.C_drew ?_)))
     (case side2 => exact (Kd.R_reads' HO537.out).2.1)
     (case side3 => repeat (first | exact (Kd.R_reads' HO541.out).2.2 | (with_reducible refine Kd.C_alloc ?_ _) | (with_reducible refine Kd.C_drewN ?_ _) | (with_reducible refine Kd.C_drew ?_)))
     (case side4 => exact (Kd.R_reads' HO541.out).2.1)
     rintro e w74 ⟨v543, rfl, ho0, hb⟩
     refine ⟨_, rfl, ?_⟩
     have n0_ := Aside0.mk (Kd.R_elder' (by (with_reducible repeat (first | apply Kd.R_alloc | apply Kd.R_drewN | apply Kd.R_drew)); exact HO537.out) (Kd.R_base ho0) hb)
     have n1_ := Aside0.mk (Kd.R_elder' (by (with_reducible repeat (first | apply Kd.R_alloc | apply Kd.R_drewN | apply Kd.R_drew)); exact HO541.out) (Kd.R_base ho0) hb)
     have n2_ := Aside0.mk (Kd.R_lower (Kd.R_new' (Kd.R_new' ho0 (Kd.R_lt (by (with_reducible repeat (first | apply Kd.R_alloc | apply Kd.R_drewN | apply Kd.R_drew)); exact HO537.out))) (Kd.R_lt (by (with_reducible repeat (first | apply Kd.R_alloc | apply Kd.R_drewN | apply Kd.R_drew)); exact HO541.out))) (below_size blx))
     have n3_ := Aside0.mk (blk_below (g := gb522) (o := .cells #[.int .i64 a0_0, .int .i64 a0_1] 23 (0, 0)) bkx hb)
     have n4_ := Aside0.mk (blk_below (g := gb523) (o := .cells #[.int .i64 a1_0, .int .i64 a1_1] 23 (0, 0)) bkx hb)
     have n5_ := Aside0.mk (blk_below (g := gb524) (o := .cells #[.int .i64 0, .int .i64 0] 23 (0, 0)) bkx hb)
     have n6_ := Aside0.mk (blk_below (g := gb531) (o := .cells #[.int .i64 t528, .int .i64 t529] 23 (0, 0)) bkx hb)
     have n7_ := Aside0.mk (below_step blx hb)
     clear HO537
     clear HO541
     clear BK522
     clear BK523
     clear BK524
     clear BK531
     clear HB
     have HO537 := n0_
     have HO541 := n1_
     have HO544 := n2_
     have BK522 := n3_
     have BK523 := n4_
     have BK524 := n5_
     have BK531 := n6_
     have HB := n7_
     clear n0_ n1_ n2_ n3_ n4_ n5_ n6_ n7_
     (try clear hb)
     (try clear hb2)
     (try clear hk)
     (try clear hi)
     (try clear ho0)
     refine hK.out _ _ ⟨(blk_cell BK522.out 0).trans rfl, (blk_cell BK522.out 1).trans rfl, (blk_cell BK523.out 0).trans rfl, (blk_cell BK523.out 1).trans rfl⟩ (fun hHeld => ?_)
     clear hK K
     refine norm_ (a' := ?_) ?_ ?_
     rotate_left
     ·show Act.put _ (some 34) _ = _
      simp only [Act.put, List.setIfInBounds_toArray, List.set_cons_zero, List.set_cons_succ, i64_w, i32_w]
      rfl
     refine pure_ (i := 9) (N := some 7) (v := ?_) (a' := ?_) #[true, true, true, true, true, true, true, true, true, true] rfl rfl (any_of HT_.out (by kernel_rfl)) (fun _ _ _ h => h) (Or.inl ⟨by rfl, ?_⟩) ?_ ?_
     rotate_left
     ·intro w'
      go_simp
      with_reducible rfl
     rotate_left
     ·simp only [Act.put, List.setIfInBounds_toArray, List.set_cons_zero, List.set_cons_succ, i64_w, i32_w]
      rfl
     refine done_ (done_of HT_.out (by kernel_rfl)) ?_
     have hnb75 := NB522_523.out
     have hnc75 := NB523_522.out
     have hnb76 := NB522_524.out
     have hnc76 := NB524_522.out
     have hnb77 := NB522_531.out
     have hnc77 := NB531_522.out
     have hcz78_0 : w74.cell? ⟨gb522, 0, none⟩ = some (.int .i64 a0_0) := (blk_cell BK522.out 0).trans rfl
     have hcz78_1 : w74.cell? ⟨gb522, 1, none⟩ = some (.int .i64 a0_1) := (blk_cell BK522.out 1).trans rfl
     have hfz78_0 := blk_frozen BK522.out 0
     have hfz78_1 := blk_frozen BK522.out 1
     have hnb79 := NB523_524.out
     have hnc79 := NB524_523.out
     have hnb80 := NB523_531.out
     have hnc80 := NB531_523.out
     have hcz81_0 : w74.cell? ⟨gb523, 0, none⟩ = some (.int .i64 a1_0) := (blk_cell BK523.out 0).trans rfl
     have hcz81_1 : w74.cell? ⟨gb523, 1, none⟩ = some (.int .i64 a1_1) := (blk_cell BK523.out 1).trans rfl
     have hfz81_0 := blk_frozen BK523.out 0
     have hfz81_1 := blk_frozen BK523.out 1
     obtain ⟨Ao82, co82, eo82⟩ := Kd.R_slice HO544.out
     subst eo82
     try go_wp2_with (first | ((with_reducible refine gate_callee (f := 71) rfl ?_); refine goesL_ (some 43) rfl rfl Tryd.func71 (by kernel_rfl) rfl #[.slice Ao82 t542.length co82, .bool ((decide (a0_1 < 0)) != (decide (a1_1 < 0))), .int .i64 1, .int .i64 1] rfl agx ?_; (with_reducible refine (levyref1_rounded.calls kj22 _ _ t542 ((decide (a0_1 < 0)) != (decide (a1_1 < 0))) 1 1 t545 _ ?side1 ?side2 A65.out).mono ?_); (case side1 => repeat (first | exact (Kd.R_reads' HO544.out).2.2 | (with_reducible refine Kd.C_alloc ?_ _) | (with_reducible refine Kd.C_drewN ?_ _) | (with_reducible refine Kd.C_drew ?_))); (case side2 => exact (Kd.R_reads' HO544.out).2.1); rintro e w83 ⟨rfl, hb⟩; refine ⟨_, rfl, ?_⟩; have n0_ := Aside0.mk (Kd.R_below (by (with_reducible repeat (first | apply Kd.R_alloc | apply Kd.R_drewN | apply Kd.R_drew)); exact HO537.out) hb); have n1_ := Aside0.mk (Kd.R_below (by (with_reducible repeat (first | apply Kd.R_alloc | apply Kd.R_drewN | apply Kd.R_drew)); exact HO541.out) hb); have n2_ := Aside0.mk (Kd.R_below (by (with_reducible repeat (first | apply Kd.R_alloc | apply Kd.R_drewN | apply Kd.R_drew)); exact HO544.out) hb); have n3_ := Aside0.mk (blk_below (g := gb522) (o := .cells #[.int .i64 a0_0, .int .i64 a0_1] 23 (0, 0)) bkx hb); have n4_ := Aside0.mk (blk_below (g := gb523) (o := .cells #[.int .i64 a1_0, .int .i64 a1_1] 23 (0, 0)) bkx hb); have n5_ := Aside0.mk (blk_below (g := gb524) (o := .cells #[.int .i64 0, .int .i64 0] 23 (0, 0)) bkx hb); have n6_ := Aside0.mk (blk_below (g := gb531) (o := .cells #[.int .i64 t528, .int .i64 t529] 23 (0, 0)) bkx hb); have n7_ := Aside0.mk (below_step blx hb); clear HO537; clear HO541; clear HO544; clear BK522; clear BK523; clear BK524; clear BK531; clear HB; have HO537 := n0_; have HO541 := n1_; have HO544 := n2_; have BK522 := n3_; have BK523 := n4_; have BK524 := n5_; have BK531 := n6_; have HB := n7_; clear n0_ n1_ n2_ n3_ n4_ n5_ n6_ n7_; (try clear hb); (try clear hb2); (try clear hk); (try clear hi)) | ((with_reducible refine gate_callee (f := 58) rfl ?_); refine goesL_ (some 44) rfl rfl Tryd.func58 (by kernel_rfl) rfl #[.int .i64 1, .int .i64 t545] rfl agx ?_; (with_reducible refine (levyref1_bounded.calls 1 t545 t546 t547 _ A66.out).mono ?_); rintro e w84 ⟨rfl, hb⟩; refine ⟨_, rfl, ?_⟩; have n0_ := Aside0.mk (Kd.R_below (by (with_reducible repeat (first | apply Kd.R_alloc | apply Kd.R_drewN | apply Kd.R_drew)); exact HO537.out) hb); have n1_ := Aside0.mk (Kd.R_below (by (with_reducible repeat (first | apply Kd.R_alloc | apply Kd.R_drewN | apply Kd.R_drew)); exact HO541.out) hb); have n2_ := Aside0.mk (Kd.R_below (by (with_reducible repeat (first | apply Kd.R_alloc | apply Kd.R_drewN | apply Kd.R_drew)); exact HO544.out) hb); have n3_ := Aside0.mk (blk_below (g := gb522) (o := .cells #[.int .i64 a0_0, .int .i64 a0_1] 23 (0, 0)) bkx hb); have n4_ := Aside0.mk (blk_below (g := gb523) (o := .cells #[.int .i64 a1_0, .int .i64 a1_1] 23 (0, 0)) bkx hb); have n5_ := Aside0.mk (blk_below (g := gb524) (o := .cells #[.int .i64 0, .int .i64 0] 23 (0, 0)) bkx hb); have n6_ := Aside0.mk (blk_below (g := gb531) (o := .cells #[.int .i64 t528, .int .i64 t529] 23 (0, 0)) bkx hb); have n7_ := Aside0.mk (below_step blx hb); clear HO537; clear HO541; clear HO544; clear BK522; clear BK523; clear BK524; clear BK531; clear HB; have HO537 := n0_; have HO541 := n1_; have HO544 := n2_; have BK522 := n3_; have BK523 := n4_; have BK524 := n5_; have BK531 := n6_; have HB := n7_; clear n0_ n1_ n2_ n3_ n4_ n5_ n6_ n7_; (try clear hb); (try clear hb2); (try clear hk); (try clear hi); have hnb85 := NB524_531.out; have hnc85 := NB531_524.out; have hcz86_0 : w84.cell? ⟨gb524, 0, none⟩ = some (.int .i64 0) := (blk_cell BK524.out 0).trans rfl; have hcz86_1 : w84.cell? ⟨gb524, 1, none⟩ = some (.int .i64 0) := (blk_cell BK524.out 1).trans rfl; have hfz86_0 := blk_frozen BK524.out 0; have hfz86_1 := blk_frozen BK524.out 1))
     refine bodyPost_ret (results_cell_row rfl _ _ gb524 23 #[.int .i64 t546, .int .i64 t547] (0, 0) _ rfl (by (with_reducible repeat (first | refine blk_drewN ?_ _ | refine blk_drew ?_ | refine blk_alloc ?_ _)); refine blk_put (cs := #[.int .i64 t546, .int .i64 0]) ?_ 1 _ rfl; (with_reducible repeat (first | refine blk_drewN ?_ _ | refine blk_drew ?_ | refine blk_alloc ?_ _)); refine blk_put (cs := #[.int .i64 0, .int .i64 0]) ?_ 0 _ rfl; (with_reducible repeat (first | refine blk_drewN ?_ _ | refine blk_drew ?_ | refine blk_alloc ?_ _)); exact BK524.out) Tryd.underlying23 rfl (by kernel_rfl)) rfl ?_
     exact ⟨by first | rfl | (simp [errW_none, errW_some] <;> rfl) | (simp [*, errW_none, errW_some] <;> rfl), blx⟩

end Go.Proofs.YtnjhjaifmgjljaaDoor.PM
