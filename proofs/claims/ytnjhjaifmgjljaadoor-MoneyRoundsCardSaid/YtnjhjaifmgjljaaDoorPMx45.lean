-- Written by a program of this session's (wip/tools/myprint.py): a function's plain form and its contract.
import Derived.Test.YtnjhjaifmgjljaaDoorPMx0
import Derived.Test.YtnjhjaifmgjljaaDoorPMx4
import Derived.Test.YtnjhjaifmgjljaaDoorPMx12
import Derived.Test.YtnjhjaifmgjljaaDoorPMx13
import Derived.Test.YtnjhjaifmgjljaaDoorPMx14
import Derived.Test.YtnjhjaifmgjljaaDoorPMx40
import Derived.Test.YtnjhjaifmgjljaaDoorPMx42
import Derived.Test.YtnjhjaifmgjljaaDoorPMx43
import Derived.Test.YtnjhjaifmgjljaaDoorPMx44
namespace Go.Proofs.YtnjhjaifmgjljaaDoor.PM
open Go.RowKit Go.Proofs.YtnjhjaifmgjljaaDoorW.PrintWords Go.Proofs.YtnjhjaifmgjljaaDoorW.PrintLast Go.Proofs.YtnjhjaifmgjljaaDoorW.PrintMore
attribute [local go_sem] max2_int min2_int max_two min_two max_three min_three max_four min_four   -- for this text's walks alone
set_option linter.unusedVariables false
set_option linter.unusedSimpArgs false

/-! ### levyref1_Round: function 40 -/
def levyref1_Round.j0 : Nat → Int → Int → Bool → Int → Int → Option (Int × Int)
 | 0, _, _, _, _, _ => none
 | k + 1, x1, x2, x30, x453000, x453001 => if x30 = true then ((levyref1_bad.f 5).bind fun bt463 => (some (bt463.1, bt463.2))) else ((levyref1_size.f x453001).bind fun t465 => ((levyref1_digits.f k t465).bind fun t466 => ((levyref1_rounded.f k t466 (decide (x453001 < 0)) x1 x2).bind fun t469 => ((levyref1_bounded.f 1 (wrap64 (t469 * x1))).bind fun bt470 => (some (bt470.1, bt470.2))))))
def levyref1_Round.f (k : Nat) (a0_0 : Int) (a0_1 : Int) (a1 : Int) (a2 : Int) : Option (Int × Int) := (levyref1_looked.f k (([(⟨a0_0, a0_1⟩ : S23)] : List (S23)))).bind fun bt457 => (if bt457.2.2 = true then (some (bt457.1, bt457.2.1)) else (if a0_0 = 1 then ((levyref1_within.f a1 1 9999999999999).bind fun t461 => (if t461 = true then ((levyref1_isMode.f a2).bind fun t462 => (levyref1_Round.j0 k a1 a2 (!t462) a0_0 a0_1)) else (levyref1_Round.j0 k a1 a2 true a0_0 a0_1))) else (levyref1_Round.j0 k a1 a2 true a0_0 a0_1)))
theorem levyref1_Round.mono_l : ∀ k, (∀ y0 y1 y2 y3 y4, LeO (levyref1_Round.j0 k y0 y1 y2 y3 y4) (levyref1_Round.j0 (k + 1) y0 y1 y2 y3 y4))
 | 0 => fun _ _ _ _ _ r h => by simp [levyref1_Round.j0] at h
 | k + 1 => by
  have ih0 := levyref1_Round.mono_l k
  ·intro y0 y1 y2 y3 y4
   unfold levyref1_Round.j0
   repeat' first
   | (with_reducible exact ih0 _ _ _ _ _)
   | (with_reducible exact levyref1_digits.mono _ _)
   | (with_reducible exact levyref1_looked.mono _ _)
   | (with_reducible exact levyref1_rounded.mono _ _ _ _ _)
   | (with_reducible exact LeO.refl _)
   | (with_reducible exact LeO.none _)
   | (with_reducible refine LeO.ite ?_ ?_)
   | (with_reducible refine LeO.bind ?_ (fun _ => ?_))
   | exact ih0 _ _ _ _ _
   | exact levyref1_digits.mono _ _
   | exact levyref1_looked.mono _ _
   | exact levyref1_rounded.mono _ _ _ _ _
   | exact LeO.none _
   | refine LeO.ite ?_ ?_
   | refine LeO.bind ?_ (fun _ => ?_)
theorem levyref1_Round.mono : ∀ a0 a1 a2 a3 k, LeO (levyref1_Round.f k a0 a1 a2 a3) (levyref1_Round.f (k + 1) a0 a1 a2 a3) := by
 intro a0 a1 a2 a3 k
 have ih0 := levyref1_Round.mono_l k
 unfold levyref1_Round.f
 repeat' first
   | (with_reducible exact ih0 _ _ _ _ _)
   | (with_reducible exact levyref1_digits.mono _ _)
   | (with_reducible exact levyref1_looked.mono _ _)
   | (with_reducible exact levyref1_rounded.mono _ _ _ _ _)
   | (with_reducible exact LeO.refl _)
   | (with_reducible exact LeO.none _)
   | (with_reducible refine LeO.ite ?_ ?_)
   | (with_reducible refine LeO.bind ?_ (fun _ => ?_))
   | exact ih0 _ _ _ _ _
   | exact levyref1_digits.mono _ _
   | exact levyref1_looked.mono _ _
   | exact levyref1_rounded.mono _ _ _ _ _
   | exact LeO.none _
   | refine LeO.ite ?_ ?_
   | refine LeO.bind ?_ (fun _ => ?_)
def levyref1_Round.T6 : Bool × List (List Nat × List Nat) := (true, [([], []), ([0], [0]), ([1], [1]), ([2, 2], [2]), ([], []), ([4], [4]), ([5], [5]), ([], []), ([], []), ([3, 6, 7, 8, 3], [3, 6, 7, 8]), ([9, 9, 0, 1, 2, 3, 4, 5, 6, 7, 8, 9], [9])])
def levyref1_Round.B6 : List Nat := [0, 1, 3, 7, 0, 16, 48, 0, 0, 511, 1023]
theorem levyref1_Round.tab6 : rtab .any (opsOf Tryd.f40 6) = levyref1_Round.T6 := by kernel_rfl
theorem levyref1_Round.bits6 : waitsOk levyref1_Round.T6.2 levyref1_Round.B6 = true := by kernel_rfl
set_option maxHeartbeats 8000000 in
set_option maxRecDepth 100000 in
theorem levyref1_Round.calls (k : Nat) (a0_0 : Int) (a0_1 : Int) (a1 : Int) (a2 : Int) (r1 : Int) (r2 : Int) (w : World) (h : levyref1_Round.f k a0_0 a0_1 a1 a2 = some (r1, r2)) :
  Calls Tryd.prog 40 #[.agg #[.int .i64 a0_0, .int .i64 a0_1], .int .i64 a1, .int .i64 a2] w fun e w' => e = .returned (.agg #[.int .i64 r1, .int .i64 r2]) ∧ Below w.heap.size w w' := by
 have hu23 := Tryd.underlying23
 have HB := Aside0.mk (Below.refl w.heap.size w)
 have H : ((levyref1_looked.f k (([(⟨a0_0, a0_1⟩ : S23)] : List (S23)))).bind fun bt457 => (if bt457.2.2 = true then (some (bt457.1, bt457.2.1)) else (if a0_0 = 1 then ((levyref1_within.f a1 1 9999999999999).bind fun t461 => (if t461 = true then ((levyref1_isMode.f a2).bind fun t462 => (levyref1_Round.j0 k a1 a2 (!t462) a0_0 a0_1)) else (levyref1_Round.j0 k a1 a2 true a0_0 a0_1))) else (levyref1_Round.j0 k a1 a2 true a0_0 a0_1)))) = some (r1, r2) := h
 clear h
 obtain ⟨y454, hy454⟩ : ∃ y_ : List (S23), y_ = (([(⟨a0_0, a0_1⟩ : S23)] : List (S23))) := ⟨_, rfl⟩
 replace H : ((levyref1_looked.f k y454).bind fun bt457 => (if bt457.2.2 = true then (some (bt457.1, bt457.2.1)) else (if a0_0 = 1 then ((levyref1_within.f a1 1 9999999999999).bind fun t461 => (if t461 = true then ((levyref1_isMode.f a2).bind fun t462 => (levyref1_Round.j0 k a1 a2 (!t462) a0_0 a0_1)) else (levyref1_Round.j0 k a1 a2 true a0_0 a0_1))) else (levyref1_Round.j0 k a1 a2 true a0_0 a0_1)))) = some (r1, r2) := by first | (rw [hy454]; with_reducible exact H) | (have H2_ := (Option.bind_some _ _).symm.trans H; rw [hy454]; with_reducible exact H2_) | (have H2_ := (Option.bind_some _ _).symm.trans H; with_reducible exact H2_) | with_reducible exact H | (rw [hy454]; exact H) | exact H
 have Ny454 := Aside0.mk hy454
 clear hy454
 replace H := Option.bind_eq_some_iff.mp H
 obtain ⟨⟨t457, t458, t459⟩, A40, H⟩ := H
 replace H : (if t459 = true then (some (t457, t458)) else (if a0_0 = 1 then ((levyref1_within.f a1 1 9999999999999).bind fun t461 => (if t461 = true then ((levyref1_isMode.f a2).bind fun t462 => (levyref1_Round.j0 k a1 a2 (!t462) a0_0 a0_1)) else (levyref1_Round.j0 k a1 a2 true a0_0 a0_1))) else (levyref1_Round.j0 k a1 a2 true a0_0 a0_1))) = some (r1, r2) := H
 have A4 := Aside0.mk A40
 clear A40
 by_cases c5 : t459 = true
 ·subst c5
  have H1 : (some (t457, t458)) = some (r1, r2) := by rw [if_pos rfl] at H; exact H
  clear H
  have H := H1
  clear H1
  simp only [Option.some.injEq, Prod.mk.injEq] at H
  obtain ⟨rfl, rfl⟩ := H
  go_enter Tryd.func40, Tryd.ntmps40
  go_wp2_with (first | ((with_reducible refine gate_dst (N := 3) rfl ?_); refine box_event ?hg (N := 3) ?hd (cs := #[.int .i64 a0_0, .int .i64 a0_1]) (t := 23) ?hr ?_; (case hd => rfl); (case hg => rfl); (case hr => first | (go_simp; done) | (go_simp; rfl)); intro gb452 hg w6 hbox hb; have n0_ := Aside0.mk (below_step blx hb); have n1_ := Aside0.mk (hbox); have n2_ := Aside0.mk ((by rw [hg]; exact (below_size blx) : w.heap.size ≤ gb452)); have n3_ := Aside0.mk ((by rw [hg]; exact (below_size blx) : w.heap.size ≤ gb452)); clear HB; have HB := n0_; have BK452 := n1_; have GW452 := n2_; have GE452 := n3_; clear n0_ n1_ n2_ n3_; clear hb hbox hg) | ((with_reducible refine gate_dst (N := 6) rfl ?_); refine box_event ?hg (N := 6) ?hd (cs := #[.int .i64 0, .int .i64 0]) (t := 23) ?hr ?_; (case hd => rfl); (case hg => rfl); (case hr => first | (go_simp; done) | (go_simp; rfl)); intro gb453 hg w7 hbox hb; have n0_ := Aside0.mk (blk_below (g := gb452) (o := .cells #[.int .i64 a0_0, .int .i64 a0_1] 23 (0, 0)) bkx hb); have n1_ := Aside0.mk (below_step blx hb); have n2_ := Aside0.mk (hbox); have n3_ := Aside0.mk ((by rw [hg]; exact (below_size blx) : w.heap.size ≤ gb453)); have n4_ := Aside0.mk ((by rw [hg]; exact (below_size blx) : w.heap.size ≤ gb453)); have n5_ := Aside0.mk ((by rw [hg]; exact Nat.ne_of_lt (blk_lt (g := gb452) (o := .cells #[.int .i64 a0_0, .int .i64 a0_1] 23 (0, 0)) bkx) : gb452 ≠ gb453)); have n6_ := Aside0.mk ((by rw [hg]; exact Nat.ne_of_gt (blk_lt (g := gb452) (o := .cells #[.int .i64 a0_0, .int .i64 a0_1] 23 (0, 0)) bkx) : gb453 ≠ gb452)); clear BK452; clear HB; have BK452 := n0_; have HB := n1_; have BK453 := n2_; have GW453 := n3_; have GE453 := n4_; have NB452_453 := n5_; have NB453_452 := n6_; clear n0_ n1_ n2_ n3_ n4_ n5_ n6_; clear hb hbox hg; have hnb8 := NB452_453.out; have hnc8 := NB453_452.out; have hcz9_0 : w7.cell? ⟨gb452, 0, none⟩ = some (.int .i64 a0_0) := (blk_cell BK452.out 0).trans rfl; have hcz9_1 : w7.cell? ⟨gb452, 1, none⟩ = some (.int .i64 a0_1) := (blk_cell BK452.out 1).trans rfl; have hfz9_0 := blk_frozen BK452.out 0; have hfz9_1 := blk_frozen BK452.out 1) | ((with_reducible refine gate_dst (N := 12) rfl ?_); refine Kd.R_lit k23 _ 23 ?hg (N := 12) ?hd (xs := ([(⟨a0_0, a0_1⟩ : S23)] : List (S23))) (inner := [.int .i64 a0_0, .int .i64 a0_1]) (ok := fun _ => True) (okp := fun _ => True) ?hr ?hp (fun _ hk => hk) trivial (Below.refl _ _) (Nat.le_refl _) (by simp) ?_; (case hd => rfl); (case hg => rfl); (case hr => first | (go_simp; done) | (go_simp; rfl)); (case hp => exact (Reps.c2 (show Kd.M k23 _ _ _ (⟨a0_0, a0_1⟩ : S23) [.int .i64 a0_0, .int .i64 a0_1] from (k23_mkM _ _ _ (⟨a0_0, a0_1⟩ : S23) )) (Reps.none _ _))); intro v455 w10 ho11 hb hg_ hnew_; clear hg_ hnew_; (first | rw [← Ny454.out] at ho11 | (simp only [Int.reduceToNat] at ho11; rw [← Ny454.out] at ho11)); have n0_ := Aside0.mk (Kd.R_lower (Kd.R_newB (Kd.R_newB ho11 (g := gb452) (o := .cells #[.int .i64 a0_0, .int .i64 a0_1] 23 (0, 0)) bkx) (g := gb453) (o := .cells #[.int .i64 0, .int .i64 0] 23 (0, 0)) bkx) (below_size blx)); have n1_ := Aside0.mk (blk_below (g := gb452) (o := .cells #[.int .i64 a0_0, .int .i64 a0_1] 23 (0, 0)) bkx hb); have n2_ := Aside0.mk (blk_below (g := gb453) (o := .cells #[.int .i64 0, .int .i64 0] 23 (0, 0)) bkx hb); have n3_ := Aside0.mk (below_step blx hb); clear BK452; clear BK453; clear HB; have HO456 := n0_; have BK452 := n1_; have BK453 := n2_; have HB := n3_; clear n0_ n1_ n2_ n3_; clear hb ho11; obtain ⟨Ao12, co12, eo12⟩ := Kd.R_slice HO456.out; subst eo12) | ((with_reducible refine gate_callee (f := 63) rfl ?_); refine goesL_ (some 13) rfl rfl Tryd.func63 (by kernel_rfl) rfl #[.slice Ao12 y454.length co12] rfl agx ?_; (with_reducible refine (levyref1_looked.calls k _ _ y454 t457 t458 true _ ?side1 ?side2 A4.out).mono ?_); (case side1 => repeat (first | exact (Kd.R_reads' HO456.out).2.2 | (with_reducible refine Kd.C_alloc ?_ _) | (with_reducible refine Kd.C_drewN ?_ _) | (with_reducible refine Kd.C_drew ?_))); (case side2 => exact (Kd.R_reads' HO456.out).2.1); rintro e w13 ⟨rfl, hb⟩; refine ⟨_, rfl, ?_⟩; have n0_ := Aside0.mk (Kd.R_below (by (with_reducible repeat (first | apply Kd.R_alloc | apply Kd.R_drewN | apply Kd.R_drew)); exact HO456.out) hb); have n1_ := Aside0.mk (blk_below (g := gb452) (o := .cells #[.int .i64 a0_0, .int .i64 a0_1] 23 (0, 0)) bkx hb); have n2_ := Aside0.mk (blk_below (g := gb453) (o := .cells #[.int .i64 0, .int .i64 0] 23 (0, 0)) bkx hb); have n3_ := Aside0.mk (below_step blx hb); clear HO456; clear BK452; clear BK453; clear HB; have HO456 := n0_; have BK452 := n1_; have BK453 := n2_; have HB := n3_; clear n0_ n1_ n2_ n3_; (try clear hb); (try clear hb2); (try clear hk); (try clear hi)) | ((with_reducible refine gate_dst (N := 7) rfl ?_); refine box_event ?hg (N := 7) ?hd (cs := #[.int .i64 0, .int .i64 0]) (t := 23) ?hr ?_; (case hd => rfl); (case hg => rfl); (case hr => first | (go_simp; done) | (go_simp; rfl)); intro gb460 hg w14 hbox hb; have n0_ := Aside0.mk (Kd.R_below (Kd.R_elderB (by (with_reducible repeat (first | apply Kd.R_alloc | apply Kd.R_drewN | apply Kd.R_drew)); exact HO456.out) gb460 (Nat.le_of_eq hg.symm)) hb); have n1_ := Aside0.mk (blk_below (g := gb452) (o := .cells #[.int .i64 a0_0, .int .i64 a0_1] 23 (0, 0)) bkx hb); have n2_ := Aside0.mk (blk_below (g := gb453) (o := .cells #[.int .i64 0, .int .i64 0] 23 (0, 0)) bkx hb); have n3_ := Aside0.mk (below_step blx hb); have n4_ := Aside0.mk (hbox); have n5_ := Aside0.mk ((by rw [hg]; exact (below_size blx) : w.heap.size ≤ gb460)); have n6_ := Aside0.mk ((by rw [hg]; exact (below_size blx) : w.heap.size ≤ gb460)); have n7_ := Aside0.mk ((by rw [hg]; exact Nat.ne_of_lt (blk_lt (g := gb452) (o := .cells #[.int .i64 a0_0, .int .i64 a0_1] 23 (0, 0)) bkx) : gb452 ≠ gb460)); have n8_ := Aside0.mk ((by rw [hg]; exact Nat.ne_of_gt (blk_lt (g := gb452) (o := .cells #[.int .i64 a0_0, .int .i64 a0_1] 23 (0, 0)) bkx) : gb460 ≠ gb452)); have n9_ := Aside0.mk ((by rw [hg]; exact Nat.ne_of_lt (blk_lt (g := gb453) (o := .cells #[.int .i64 0, .int .i64 0] 23 (0, 0)) bkx) : gb453 ≠ gb460)); have n10_ := Aside0.mk ((by rw [hg]; exact Nat.ne_of_gt (blk_lt (g := gb453) (o := .cells #[.int .i64 0, .int .i64 0] 23 (0, 0)) bkx) : gb460 ≠ gb453)); clear HO456; clear BK452; clear BK453; clear HB; have HO456 := n0_; have BK452 := n1_; have BK453 := n2_; have HB := n3_; have BK460 := n4_; have GW460 := n5_; have GE460 := n6_; have NB452_460 := n7_; have NB460_452 := n8_; have NB453_460 := n9_; have NB460_453 := n10_; clear n0_ n1_ n2_ n3_ n4_ n5_ n6_ n7_ n8_ n9_ n10_; clear hb hbox hg; have hnb15 := NB460_452.out; have hnc15 := NB452_460.out; have hnb16 := NB460_453.out; have hnc16 := NB453_460.out; have hcz17_0 : w14.cell? ⟨gb460, 0, none⟩ = some (.int .i64 0) := (blk_cell BK460.out 0).trans rfl; have hcz17_1 : w14.cell? ⟨gb460, 1, none⟩ = some (.int .i64 0) := (blk_cell BK460.out 1).trans rfl; have hfz17_0 := blk_frozen BK460.out 0; have hfz17_1 := blk_frozen BK460.out 1; have hcz18_0 : w14.cell? ⟨gb453, 0, none⟩ = some (.int .i64 0) := (blk_cell BK453.out 0).trans rfl; have hcz18_1 : w14.cell? ⟨gb453, 1, none⟩ = some (.int .i64 0) := (blk_cell BK453.out 1).trans rfl; have hfz18_0 := blk_frozen BK453.out 0; have hfz18_1 := blk_frozen BK453.out 1))
  refine bodyPost_ret (results_cell_row rfl _ _ gb453 23 #[.int .i64 t457, .int .i64 t458] (0, 0) _ rfl (by (with_reducible repeat (first | refine blk_drewN ?_ _ | refine blk_drew ?_ | refine blk_alloc ?_ _)); refine blk_put (cs := #[.int .i64 t457, .int .i64 0]) ?_ 1 _ rfl; (with_reducible repeat (first | refine blk_drewN ?_ _ | refine blk_drew ?_ | refine blk_alloc ?_ _)); refine blk_put (cs := #[.int .i64 0, .int .i64 0]) ?_ 0 _ rfl; (with_reducible repeat (first | refine blk_drewN ?_ _ | refine blk_drew ?_ | refine blk_alloc ?_ _)); refine blk_far ?_ NB453_460.out _; (with_reducible repeat (first | refine blk_drewN ?_ _ | refine blk_drew ?_ | refine blk_alloc ?_ _)); refine blk_far ?_ NB453_460.out _; (with_reducible repeat (first | refine blk_drewN ?_ _ | refine blk_drew ?_ | refine blk_alloc ?_ _)); exact BK453.out) Tryd.underlying23 rfl (by kernel_rfl)) rfl ?_
  exact ⟨by first | rfl | (simp [errW_none, errW_some] <;> rfl) | (simp [*, errW_none, errW_some] <;> rfl), blx⟩
 ·replace c5 := Bool.eq_false_iff.mpr c5
  subst c5
  have H1 : (if a0_0 = 1 then ((levyref1_within.f a1 1 9999999999999).bind fun t461 => (if t461 = true then ((levyref1_isMode.f a2).bind fun t462 => (levyref1_Round.j0 k a1 a2 (!t462) a0_0 a0_1)) else (levyref1_Round.j0 k a1 a2 true a0_0 a0_1))) else (levyref1_Round.j0 k a1 a2 true a0_0 a0_1)) = some (r1, r2) := by rw [if_neg (show ¬ (false = true) by decide)] at H; exact H
  clear H
  have H := H1
  clear H1
  have HC19 := Aside0.mk H
  clear H
  go_enter Tryd.func40, Tryd.ntmps40
  go_upto_region 4 with (first | ((with_reducible refine gate_dst (N := 3) rfl ?_); refine box_event ?hg (N := 3) ?hd (cs := #[.int .i64 a0_0, .int .i64 a0_1]) (t := 23) ?hr ?_; (case hd => rfl); (case hg => rfl); (case hr => first | (go_simp; done) | (go_simp; rfl)); intro gb452 hg w20 hbox hb; have n0_ := Aside0.mk (below_step blx hb); have n1_ := Aside0.mk (hbox); have n2_ := Aside0.mk ((by rw [hg]; exact (below_size blx) : w.heap.size ≤ gb452)); have n3_ := Aside0.mk ((by rw [hg]; exact (below_size blx) : w.heap.size ≤ gb452)); clear HB; have HB := n0_; have BK452 := n1_; have GW452 := n2_; have GE452 := n3_; clear n0_ n1_ n2_ n3_; clear hb hbox hg) | ((with_reducible refine gate_dst (N := 6) rfl ?_); refine box_event ?hg (N := 6) ?hd (cs := #[.int .i64 0, .int .i64 0]) (t := 23) ?hr ?_; (case hd => rfl); (case hg => rfl); (case hr => first | (go_simp; done) | (go_simp; rfl)); intro gb453 hg w21 hbox hb; have n0_ := Aside0.mk (blk_below (g := gb452) (o := .cells #[.int .i64 a0_0, .int .i64 a0_1] 23 (0, 0)) bkx hb); have n1_ := Aside0.mk (below_step blx hb); have n2_ := Aside0.mk (hbox); have n3_ := Aside0.mk ((by rw [hg]; exact (below_size blx) : w.heap.size ≤ gb453)); have n4_ := Aside0.mk ((by rw [hg]; exact (below_size blx) : w.heap.size ≤ gb453)); have n5_ := Aside0.mk ((by rw [hg]; exact Nat.ne_of_lt (blk_lt (g := gb452) (o := .cells #[.int .i64 a0_0, .int .i64 a0_1] 23 (0, 0)) bkx) : gb452 ≠ gb453)); have n6_ := Aside0.mk ((by rw [hg]; exact Nat.ne_of_gt (blk_lt (g := gb452) (o := .cells #[.int .i64 a0_0, .int .i64 a0_1] 23 (0, 0)) bkx) : gb453 ≠ gb452)); clear BK452; clear HB; have BK452 := n0_; have HB := n1_; have BK453 := n2_; have GW453 := n3_; have GE453 := n4_; have NB452_453 := n5_; have NB453_452 := n6_; clear n0_ n1_ n2_ n3_ n4_ n5_ n6_; clear hb hbox hg; have hnb22 := NB452_453.out; have hnc22 := NB453_452.out; have hcz23_0 : w21.cell? ⟨gb452, 0, none⟩ = some (.int .i64 a0_0) := (blk_cell BK452.out 0).trans rfl; have hcz23_1 : w21.cell? ⟨gb452, 1, none⟩ = some (.int .i64 a0_1) := (blk_cell BK452.out 1).trans rfl; have hfz23_0 := blk_frozen BK452.out 0; have hfz23_1 := blk_frozen BK452.out 1) | ((with_reducible refine gate_dst (N := 12) rfl ?_); refine Kd.R_lit k23 _ 23 ?hg (N := 12) ?hd (xs := ([(⟨a0_0, a0_1⟩ : S23)] : List (S23))) (inner := [.int .i64 a0_0, .int .i64 a0_1]) (ok := fun _ => True) (okp := fun _ => True) ?hr ?hp (fun _ hk => hk) trivial (Below.refl _ _) (Nat.le_refl _) (by simp) ?_; (case hd => rfl); (case hg => rfl); (case hr => first | (go_simp; done) | (go_simp; rfl)); (case hp => exact (Reps.c2 (show Kd.M k23 _ _ _ (⟨a0_0, a0_1⟩ : S23) [.int .i64 a0_0, .int .i64 a0_1] from (k23_mkM _ _ _ (⟨a0_0, a0_1⟩ : S23) )) (Reps.none _ _))); intro v455 w24 ho25 hb hg_ hnew_; clear hg_ hnew_; (first | rw [← Ny454.out] at ho25 | (simp only [Int.reduceToNat] at ho25; rw [← Ny454.out] at ho25)); have n0_ := Aside0.mk (Kd.R_lower (Kd.R_newB (Kd.R_newB ho25 (g := gb452) (o := .cells #[.int .i64 a0_0, .int .i64 a0_1] 23 (0, 0)) bkx) (g := gb453) (o := .cells #[.int .i64 0, .int .i64 0] 23 (0, 0)) bkx) (below_size blx)); have n1_ := Aside0.mk (blk_below (g := gb452) (o := .cells #[.int .i64 a0_0, .int .i64 a0_1] 23 (0, 0)) bkx hb); have n2_ := Aside0.mk (blk_below (g := gb453) (o := .cells #[.int .i64 0, .int .i64 0] 23 (0, 0)) bkx hb); have n3_ := Aside0.mk (below_step blx hb); clear BK452; clear BK453; clear HB; have HO456 := n0_; have BK452 := n1_; have BK453 := n2_; have HB := n3_; clear n0_ n1_ n2_ n3_; clear hb ho25; obtain ⟨Ao26, co26, eo26⟩ := Kd.R_slice HO456.out; subst eo26) | ((with_reducible refine gate_callee (f := 63) rfl ?_); refine goesL_ (some 13) rfl rfl Tryd.func63 (by kernel_rfl) rfl #[.slice Ao26 y454.length co26] rfl agx ?_; (with_reducible refine (levyref1_looked.calls k _ _ y454 t457 t458 false _ ?side1 ?side2 A4.out).mono ?_); (case side1 => repeat (first | exact (Kd.R_reads' HO456.out).2.2 | (with_reducible refine Kd.C_alloc ?_ _) | (with_reducible refine Kd.C_drewN ?_ _) | (with_reducible refine Kd.C_drew ?_))); (case side2 => exact (Kd.R_reads' HO456.out).2.1); rintro e w27 ⟨rfl, hb⟩; refine ⟨_, rfl, ?_⟩; have n0_ := Aside0.mk (Kd.R_below (by (with_reducible repeat (first | apply Kd.R_alloc | apply Kd.R_drewN | apply Kd.R_drew)); exact HO456.out) hb); have n1_ := Aside0.mk (blk_below (g := gb452) (o := .cells #[.int .i64 a0_0, .int .i64 a0_1] 23 (0, 0)) bkx hb); have n2_ := Aside0.mk (blk_below (g := gb453) (o := .cells #[.int .i64 0, .int .i64 0] 23 (0, 0)) bkx hb); have n3_ := Aside0.mk (below_step blx hb); clear HO456; clear BK452; clear BK453; clear HB; have HO456 := n0_; have BK452 := n1_; have BK453 := n2_; have HB := n3_; clear n0_ n1_ n2_ n3_; (try clear hb); (try clear hb2); (try clear hk); (try clear hi)) | ((with_reducible refine gate_dst (N := 7) rfl ?_); refine box_event ?hg (N := 7) ?hd (cs := #[.int .i64 0, .int .i64 0]) (t := 23) ?hr ?_; (case hd => rfl); (case hg => rfl); (case hr => first | (go_simp; done) | (go_simp; rfl)); intro gb460 hg w28 hbox hb; have n0_ := Aside0.mk (Kd.R_below (Kd.R_elderB (by (with_reducible repeat (first | apply Kd.R_alloc | apply Kd.R_drewN | apply Kd.R_drew)); exact HO456.out) gb460 (Nat.le_of_eq hg.symm)) hb); have n1_ := Aside0.mk (blk_below (g := gb452) (o := .cells #[.int .i64 a0_0, .int .i64 a0_1] 23 (0, 0)) bkx hb); have n2_ := Aside0.mk (blk_below (g := gb453) (o := .cells #[.int .i64 0, .int .i64 0] 23 (0, 0)) bkx hb); have n3_ := Aside0.mk (below_step blx hb); have n4_ := Aside0.mk (hbox); have n5_ := Aside0.mk ((by rw [hg]; exact (below_size blx) : w.heap.size ≤ gb460)); have n6_ := Aside0.mk ((by rw [hg]; exact (below_size blx) : w.heap.size ≤ gb460)); have n7_ := Aside0.mk ((by rw [hg]; exact Nat.ne_of_lt (blk_lt (g := gb452) (o := .cells #[.int .i64 a0_0, .int .i64 a0_1] 23 (0, 0)) bkx) : gb452 ≠ gb460)); have n8_ := Aside0.mk ((by rw [hg]; exact Nat.ne_of_gt (blk_lt (g := gb452) (o := .cells #[.int .i64 a0_0, .int .i64 a0_1] 23 (0, 0)) bkx) : gb460 ≠ gb452)); have n9_ := Aside0.mk ((by rw [hg]; exact Nat.ne_of_lt (blk_lt (g := gb453) (o := .cells #[.int .i64 0, .int .i64 0] 23 (0, 0)) bkx) : gb453 ≠ gb460)); have n10_ := Aside0.mk ((by rw [hg]; exact Nat.ne_of_gt (blk_lt (g := gb453) (o := .cells #[.int .i64 0, .int .i64 0] 23 (0, 0)) bkx) : gb460 ≠ gb453)); clear HO456; clear BK452; clear BK453; clear HB; have HO456 := n0_; have BK452 := n1_; have BK453 := n2_; have HB := n3_; have BK460 := n4_; have GW460 := n5_; have GE460 := n6_; have NB452_460 := n7_; have NB460_452 := n8_; have NB453_460 := n9_; have NB460_453 := n10_; clear n0_ n1_ n2_ n3_ n4_ n5_ n6_ n7_ n8_ n9_ n10_; clear hb hbox hg; have hnb29 := NB460_452.out; have hnc29 := NB452_460.out; have hnb30 := NB460_453.out; have hnc30 := NB453_460.out; have hcz31_0 : w28.cell? ⟨gb460, 0, none⟩ = some (.int .i64 0) := (blk_cell BK460.out 0).trans rfl; have hcz31_1 : w28.cell? ⟨gb460, 1, none⟩ = some (.int .i64 0) := (blk_cell BK460.out 1).trans rfl; have hfz31_0 := blk_frozen BK460.out 0; have hfz31_1 := blk_frozen BK460.out 1))
  (try simp only [Act.put, List.setIfInBounds_toArray, List.set_cons_zero, List.set_cons_succ])
  go_cut [30] (fun v30 wc => ∃ (kq : Nat) (x30_18 : Bool), v30 = .bool x30_18 ∧ Aside0 (levyref1_Round.j0 kq a1 a2 x30_18 a0_0 a0_1 = some (r1, r2)) ∧ Aside0 (kq ≤ k) ∧ Aside0 (wc.heap[gb452]? = some (.cells #[.int .i64 a0_0, .int .i64 a0_1] 23 (0, 0))) ∧ Aside0 (wc.heap[gb453]? = some (.cells #[.int .i64 0, .int .i64 0] 23 (0, 0))) ∧ Aside0 (wc.heap[gb460]? = some (.cells #[.int .i64 t457, .int .i64 t458] 23 (0, 0))) ∧ Aside0 (Below w.heap.size w wc))
  case first =>
   have H := HC19.out
   clear HC19
   by_cases c32 : a0_0 = 1
   ·rw [if_pos c32] at H
    have c32b0 : (a0_0 == 1) = true := beq_iff_eq.mpr c32
    have c32b1 : (a0_0 != 1) = false := bne_eq_false_iff_eq.mpr c32
    clear c32
    (first | rw [c32b0] | (simp only [i64_w, i32_w]; rw [c32b0]) | skip)
    replace H := Option.bind_eq_some_iff.mp H
    obtain ⟨t461, A330, H⟩ := H
    replace H : (if t461 = true then ((levyref1_isMode.f a2).bind fun t462 => (levyref1_Round.j0 k a1 a2 (!t462) a0_0 a0_1)) else (levyref1_Round.j0 k a1 a2 true a0_0 a0_1)) = some (r1, r2) := H
    have A33 := Aside0.mk A330
    clear A330
    by_cases c34 : t461 = true
    ·subst c34
     have H1 : ((levyref1_isMode.f a2).bind fun t462 => (levyref1_Round.j0 k a1 a2 (!t462) a0_0 a0_1)) = some (r1, r2) := by rw [if_pos rfl] at H; exact H
     clear H
     have H := H1
     clear H1
     replace H := Option.bind_eq_some_iff.mp H
     obtain ⟨t462, A350, H⟩ := H
     replace H : (levyref1_Round.j0 k a1 a2 (!t462) a0_0 a0_1) = some (r1, r2) := H
     have A35 := Aside0.mk A350
     clear A350
     have H' := Aside0.mk H
     clear H
     have hnb36 := NB452_453.out
     have hnc36 := NB453_452.out
     have hnb37 := NB452_460.out
     have hnc37 := NB460_452.out
     have hcz38_0 : w28.cell? ⟨gb452, 0, none⟩ = some (.int .i64 a0_0) := (blk_cell BK452.out 0).trans rfl
     have hcz38_1 : w28.cell? ⟨gb452, 1, none⟩ = some (.int .i64 a0_1) := (blk_cell BK452.out 1).trans rfl
     have hfz38_0 := blk_frozen BK452.out 0
     have hfz38_1 := blk_frozen BK452.out 1
     go_wp2_with (first | (go_at_call 56; (with_reducible refine (levyref1_within.calls a1 1 9999999999999 true _ A33.out).mono ?_); rintro e w' ⟨rfl, ⟨nd, rfl⟩⟩) | (go_at_call 70; (with_reducible refine (levyref1_isMode.calls a2 t462 _ A35.out).mono ?_); rintro e w' ⟨rfl, ⟨nd, rfl⟩⟩))
     go_meet
     case rel => exact ⟨_, (!t462), (by first | rfl | (simp; done) | (simp [*]; done)), H', ⟨by first | omega | exact Nat.le_refl _⟩, ⟨bkx⟩, ⟨bkx⟩, ⟨by (with_reducible repeat (first | refine blk_drewN ?_ _ | refine blk_drew ?_ | refine blk_alloc ?_ _)); refine blk_put (cs := #[.int .i64 t457, .int .i64 0]) ?_ 1 _ rfl; (with_reducible repeat (first | refine blk_drewN ?_ _ | refine blk_drew ?_ | refine blk_alloc ?_ _)); refine blk_put (cs := #[.int .i64 0, .int .i64 0]) ?_ 0 _ rfl; (with_reducible repeat (first | refine blk_drewN ?_ _ | refine blk_drew ?_ | refine blk_alloc ?_ _)); exact BK460.out⟩, ⟨blx⟩⟩
    ·replace c34 := Bool.eq_false_iff.mpr c34
     subst c34
     have H1 : (levyref1_Round.j0 k a1 a2 true a0_0 a0_1) = some (r1, r2) := by rw [if_neg (show ¬ (false = true) by decide)] at H; exact H
     clear H
     have H := H1
     clear H1
     have H' := Aside0.mk H
     clear H
     have hnb39 := NB452_453.out
     have hnc39 := NB453_452.out
     have hnb40 := NB452_460.out
     have hnc40 := NB460_452.out
     have hcz41_0 : w28.cell? ⟨gb452, 0, none⟩ = some (.int .i64 a0_0) := (blk_cell BK452.out 0).trans rfl
     have hcz41_1 : w28.cell? ⟨gb452, 1, none⟩ = some (.int .i64 a0_1) := (blk_cell BK452.out 1).trans rfl
     have hfz41_0 := blk_frozen BK452.out 0
     have hfz41_1 := blk_frozen BK452.out 1
     go_wp2_with (first | (go_at_call 56; (with_reducible refine (levyref1_within.calls a1 1 9999999999999 false _ A33.out).mono ?_); rintro e w' ⟨rfl, ⟨nd, rfl⟩⟩))
     go_meet
     case rel => exact ⟨_, (true), (by first | rfl | (simp; done) | (simp [*]; done)), H', ⟨by first | omega | exact Nat.le_refl _⟩, ⟨bkx⟩, ⟨bkx⟩, ⟨by (with_reducible repeat (first | refine blk_drewN ?_ _ | refine blk_drew ?_ | refine blk_alloc ?_ _)); refine blk_put (cs := #[.int .i64 t457, .int .i64 0]) ?_ 1 _ rfl; (with_reducible repeat (first | refine blk_drewN ?_ _ | refine blk_drew ?_ | refine blk_alloc ?_ _)); refine blk_put (cs := #[.int .i64 0, .int .i64 0]) ?_ 0 _ rfl; (with_reducible repeat (first | refine blk_drewN ?_ _ | refine blk_drew ?_ | refine blk_alloc ?_ _)); exact BK460.out⟩, ⟨blx⟩⟩
   ·rw [if_neg c32] at H
    have c32b0 : (a0_0 == 1) = false := beq_eq_false_iff_ne.mpr c32
    have c32b1 : (a0_0 != 1) = true := bne_iff_ne.mpr c32
    (first | rw [c32b0] | (simp only [i64_w, i32_w]; rw [c32b0]) | skip)
    have H' := Aside0.mk H
    clear H
    have hnb42 := NB452_453.out
    have hnc42 := NB453_452.out
    have hnb43 := NB452_460.out
    have hnc43 := NB460_452.out
    have hcz44_0 : w28.cell? ⟨gb452, 0, none⟩ = some (.int .i64 a0_0) := (blk_cell BK452.out 0).trans rfl
    have hcz44_1 : w28.cell? ⟨gb452, 1, none⟩ = some (.int .i64 a0_1) := (blk_cell BK452.out 1).trans rfl
    have hfz44_0 := blk_frozen BK452.out 0
    have hfz44_1 := blk_frozen BK452.out 1
    go_wp2
    go_meet
    case rel => exact ⟨_, (true), (by first | rfl | (simp; done) | (simp [*]; done)), H', ⟨by first | omega | exact Nat.le_refl _⟩, ⟨bkx⟩, ⟨bkx⟩, ⟨by (with_reducible repeat (first | refine blk_drewN ?_ _ | refine blk_drew ?_ | refine blk_alloc ?_ _)); refine blk_put (cs := #[.int .i64 t457, .int .i64 0]) ?_ 1 _ rfl; (with_reducible repeat (first | refine blk_drewN ?_ _ | refine blk_drew ?_ | refine blk_alloc ?_ _)); refine blk_put (cs := #[.int .i64 0, .int .i64 0]) ?_ 0 _ rfl; (with_reducible repeat (first | refine blk_drewN ?_ _ | refine blk_drew ?_ | refine blk_alloc ?_ _)); exact BK460.out⟩, ⟨blx⟩⟩
  case rest =>
   clear HC19
   try clear c1
   try clear c2
   try clear p2
   try clear c3
   try clear c4
   try clear c5
   try clear c6
   try clear c8
   try clear c15
   try clear c16
   try clear c22
   try clear c29
   try clear c30
   try clear c32
   try clear c32b0
   try clear c32b1
   try clear c34
   try clear c36
   try clear c37
   try clear c39
   try clear c40
   try clear c42
   try clear c43
   try clear hcz17_0
   try clear hcz17_1
   try clear hcz18_0
   try clear hcz18_1
   try clear hcz23_0
   try clear hcz23_1
   try clear hcz31_0
   try clear hcz31_1
   try clear hcz38_0
   try clear hcz38_1
   try clear hcz41_0
   try clear hcz41_1
   try clear hcz44_0
   try clear hcz44_1
   try clear hcz9_0
   try clear hcz9_1
   try clear hfz17_0
   try clear hfz17_1
   try clear hfz18_0
   try clear hfz18_1
   try clear hfz23_0
   try clear hfz23_1
   try clear hfz31_0
   try clear hfz31_1
   try clear hfz38_0
   try clear hfz38_1
   try clear hfz41_0
   try clear hfz41_1
   try clear hfz44_0
   try clear hfz44_1
   try clear hfz9_0
   try clear hfz9_1
   obtain ⟨kq, x30_18, rfl, HA, HJ18, BK452, BK453, BK460, HB⟩ := hcut
   cases kq with
   | zero => exact absurd HA.out (by simp [levyref1_Round.j0])
   | succ kj18 =>
    have H := HA.out
    clear HA
    simp only [levyref1_Round.j0] at H
    by_cases c45 : x30_18 = true
    ·subst c45
     have H1 : ((levyref1_bad.f 5).bind fun bt463 => (some (bt463.1, bt463.2))) = some (r1, r2) := by rw [if_pos rfl] at H; exact H
     clear H
     have H := H1
     clear H1
     replace H := Option.bind_eq_some_iff.mp H
     obtain ⟨⟨t463, t464⟩, A460, H⟩ := H
     replace H : (some (t463, t464)) = some (r1, r2) := H
     have A46 := Aside0.mk A460
     clear A460
     simp only [Option.some.injEq, Prod.mk.injEq] at H
     obtain ⟨rfl, rfl⟩ := H
     go_wp2_with (first | ((with_reducible refine gate_callee (f := 57) rfl ?_); refine goesL_ (some 31) rfl rfl Tryd.func57 (by kernel_rfl) rfl #[.int .i64 5] rfl agx ?_; (with_reducible refine (levyref1_bad.calls 5 t463 t464 _ A46.out).mono ?_); rintro e w47 ⟨rfl, hb⟩; refine ⟨_, rfl, ?_⟩; have n0_ := Aside0.mk (blk_below (g := gb452) (o := .cells #[.int .i64 a0_0, .int .i64 a0_1] 23 (0, 0)) bkx hb); have n1_ := Aside0.mk (blk_below (g := gb453) (o := .cells #[.int .i64 0, .int .i64 0] 23 (0, 0)) bkx hb); have n2_ := Aside0.mk (blk_below (g := gb460) (o := .cells #[.int .i64 t457, .int .i64 t458] 23 (0, 0)) bkx hb); have n3_ := Aside0.mk (below_step blx hb); clear BK452; clear BK453; clear BK460; clear HB; have BK452 := n0_; have BK453 := n1_; have BK460 := n2_; have HB := n3_; clear n0_ n1_ n2_ n3_; (try clear hb); (try clear hb2); (try clear hk); (try clear hi); have hnb48 := NB453_452.out; have hnc48 := NB452_453.out; have hnb49 := NB453_460.out; have hnc49 := NB460_453.out; have hcz50_0 : w47.cell? ⟨gb453, 0, none⟩ = some (.int .i64 0) := (blk_cell BK453.out 0).trans rfl; have hcz50_1 : w47.cell? ⟨gb453, 1, none⟩ = some (.int .i64 0) := (blk_cell BK453.out 1).trans rfl; have hfz50_0 := blk_frozen BK453.out 0; have hfz50_1 := blk_frozen BK453.out 1))
     refine bodyPost_ret (results_cell_row rfl _ _ gb453 23 #[.int .i64 t463, .int .i64 t464] (0, 0) _ rfl (by (with_reducible repeat (first | refine blk_drewN ?_ _ | refine blk_drew ?_ | refine blk_alloc ?_ _)); refine blk_put (cs := #[.int .i64 t463, .int .i64 0]) ?_ 1 _ rfl; (with_reducible repeat (first | refine blk_drewN ?_ _ | refine blk_drew ?_ | refine blk_alloc ?_ _)); refine blk_put (cs := #[.int .i64 0, .int .i64 0]) ?_ 0 _ rfl; (with_reducible repeat (first | refine blk_drewN ?_ _ | refine blk_drew ?_ | refine blk_alloc ?_ _)); exact BK453.out) Tryd.underlying23 rfl (by kernel_rfl)) rfl ?_
     exact ⟨by first | rfl | (simp [errW_none, errW_some] <;> rfl) | (simp [*, errW_none, errW_some] <;> rfl), blx⟩
    ·replace c45 := Bool.eq_false_iff.mpr c45
     subst c45
     have H1 : ((levyref1_size.f a0_1).bind fun t465 => ((levyref1_digits.f kj18 t465).bind fun t466 => ((levyref1_rounded.f kj18 t466 (decide (a0_1 < 0)) a1 a2).bind fun t469 => ((levyref1_bounded.f 1 (wrap64 (t469 * a1))).bind fun bt470 => (some (bt470.1, bt470.2)))))) = some (r1, r2) := by rw [if_neg (show ¬ (false = true) by decide)] at H; exact H
     clear H
     have H := H1
     clear H1
     replace H := Option.bind_eq_some_iff.mp H
     obtain ⟨t465, A510, H⟩ := H
     replace H : ((levyref1_digits.f kj18 t465).bind fun t466 => ((levyref1_rounded.f kj18 t466 (decide (a0_1 < 0)) a1 a2).bind fun t469 => ((levyref1_bounded.f 1 (wrap64 (t469 * a1))).bind fun bt470 => (some (bt470.1, bt470.2))))) = some (r1, r2) := H
     have A51 := Aside0.mk A510
     clear A510
     replace H := Option.bind_eq_some_iff.mp H
     obtain ⟨t466, A520, H⟩ := H
     replace H : ((levyref1_rounded.f kj18 t466 (decide (a0_1 < 0)) a1 a2).bind fun t469 => ((levyref1_bounded.f 1 (wrap64 (t469 * a1))).bind fun bt470 => (some (bt470.1, bt470.2)))) = some (r1, r2) := H
     have A52 := Aside0.mk A520
     clear A520
     replace H := Option.bind_eq_some_iff.mp H
     obtain ⟨t469, A530, H⟩ := H
     replace H : ((levyref1_bounded.f 1 (wrap64 (t469 * a1))).bind fun bt470 => (some (bt470.1, bt470.2))) = some (r1, r2) := H
     have A53 := Aside0.mk A530
     clear A530
     replace H := Option.bind_eq_some_iff.mp H
     obtain ⟨⟨t470, t471⟩, A540, H⟩ := H
     replace H : (some (t470, t471)) = some (r1, r2) := H
     have A54 := Aside0.mk A540
     clear A540
     simp only [Option.some.injEq, Prod.mk.injEq] at H
     obtain ⟨rfl, rfl⟩ := H
     try go_wp2
     have n0_ := Aside0.mk (blk_drew BK452.out)
     have n1_ := Aside0.mk (blk_drew BK453.out)
     have n2_ := Aside0.mk (blk_drew BK460.out)
     have n3_ := Aside0.mk (below_drew1 HB.out)
     clear BK452
     clear BK453
     clear BK460
     clear HB
     have BK452 := n0_
     have BK453 := n1_
     have BK460 := n2_
     have HB := n3_
     clear n0_ n1_ n2_ n3_
     refine start_ (n := 11) (S := fun w' => w'.cell? ⟨gb452, 0, none⟩ = some (.int .i64 a0_0) ∧ w'.cell? ⟨gb452, 1, none⟩ = some (.int .i64 a0_1)) (ds := []) #[false, false, false, false, false, false, false, false, false, false, false] (by kernel_rfl) rfl rfl ⟨(blk_cell BK452.out 0).trans rfl, (blk_cell BK452.out 1).trans rfl⟩ (fun hHeld => ?_); refine with_tabW levyref1_Round.tab6 levyref1_Round.bits6 (fun HT_ HW_ => ?_)
     generalize wc.drew = w55 at BK452 BK453 BK460 HB hHeld ⊢
     refine pure_ (i := 0) (N := some 32) (v := ?_) (a' := ?_) #[true, false, false, false, false, false, false, false, false, false, false] rfl rfl (any_of HT_.out (by kernel_rfl)) (fun _ _ _ h => h) (Or.inl ⟨by rfl, ?_⟩) ?_ ?_
     rotate_left
     ·intro w'
      go_simp
      with_reducible rfl
     rotate_left
     ·simp only [Act.put, List.setIfInBounds_toArray, List.set_cons_zero, List.set_cons_succ, i64_w, i32_w]
      rfl
     refine pure_ (i := 4) (N := some 36) (v := ?_) (a' := ?_) #[true, false, false, false, true, false, false, false, false, false, false] rfl rfl (any_of HT_.out (by kernel_rfl)) (fun _ _ _ h => h) (Or.inl ⟨by rfl, ?_⟩) ?_ ?_
     rotate_left
     ·intro w'
      go_simp
      with_reducible rfl
     rotate_left
     ·simp only [Act.put, List.setIfInBounds_toArray, List.set_cons_zero, List.set_cons_succ, i64_w, i32_w]
      rfl
     refine pure_ (i := 7) (N := some 39) (v := ?_) (a' := ?_) #[true, false, false, false, true, false, false, true, false, false, false] rfl rfl (any_of HT_.out (by kernel_rfl)) (fun _ _ _ h => h) (Or.inl ⟨by rfl, ?_⟩) ?_ ?_
     rotate_left
     ·intro w'
      go_simp
      with_reducible rfl
     rotate_left
     ·simp only [Act.put, List.setIfInBounds_toArray, List.set_cons_zero, List.set_cons_succ, i64_w, i32_w]
      rfl
     refine pure_ (i := 8) (N := some 40) (v := ?_) (a' := ?_) #[true, false, false, false, true, false, false, true, true, false, false] rfl rfl (any_of HT_.out (by kernel_rfl)) (fun _ _ _ h => h) (Or.inl ⟨by rfl, ?_⟩) ?_ ?_
     rotate_left
     ·intro w'
      go_simp
      with_reducible rfl
     rotate_left
     ·simp only [Act.put, List.setIfInBounds_toArray, List.set_cons_zero, List.set_cons_succ, i64_w, i32_w]
      rfl
     refine take_ (i := 1) (N := some 33) (v := ?_) (a' := ?_) #[true, true, false, false, true, false, false, true, true, false, false] rfl rfl (take_ofW HT_.out HW_.out (by kernel_rfl)) (fun _ _ _ h => h) (Or.inl ⟨by rfl, ?_⟩) hHeld ?_ ?_
     rotate_left
     ·rintro w' ⟨s0, s1⟩
      go_simp
      with_reducible rfl
     rotate_left
     ·simp only [Act.put, List.setIfInBounds_toArray, List.set_cons_zero, List.set_cons_succ, i64_w, i32_w]
      rfl
     refine take_ (i := 5) (N := some 37) (v := ?_) (a' := ?_) #[true, true, false, false, true, true, false, true, true, false, false] rfl rfl (take_ofW HT_.out HW_.out (by kernel_rfl)) (fun _ _ _ h => h) (Or.inl ⟨by rfl, ?_⟩) hHeld ?_ ?_
     rotate_left
     ·rintro w' ⟨s0, s1⟩
      go_simp
      with_reducible rfl
     rotate_left
     ·simp only [Act.put, List.setIfInBounds_toArray, List.set_cons_zero, List.set_cons_succ, i64_w, i32_w]
      rfl
     refine pure_ (i := 6) (N := some 38) (v := ?_) (a' := ?_) #[true, true, false, false, true, true, true, true, true, false, false] rfl rfl (any_of HT_.out (by kernel_rfl)) (fun _ _ _ h => h) (Or.inl ⟨by rfl, ?_⟩) ?_ ?_
     rotate_left
     ·intro w'
      go_simp
      with_reducible rfl
     rotate_left
     ·simp only [Act.put, List.setIfInBounds_toArray, List.set_cons_zero, List.set_cons_succ, i64_w, i32_w]
      rfl
     refine one_ (i := 2) (N := some 34) #[true, true, true, false, true, true, true, true, true, false, false] rfl rfl (one_of HT_.out (by kernel_rfl)) (by decide) (fun K hK => ?_)
     refine goes_ Tryd.func73 (by kernel_rfl) rfl #[.int .i64 a0_1] (by rfl) rfl rfl agx ?_
     with_reducible refine (levyref1_size.calls a0_1 t465 _ A51.out).mono ?_
     rintro e w56 ⟨rfl, hb⟩
     refine ⟨_, rfl, ?_⟩
     have n0_ := Aside0.mk (blk_below (g := gb452) (o := .cells #[.int .i64 a0_0, .int .i64 a0_1] 23 (0, 0)) bkx hb)
     have n1_ := Aside0.mk (blk_below (g := gb453) (o := .cells #[.int .i64 0, .int .i64 0] 23 (0, 0)) bkx hb)
     have n2_ := Aside0.mk (blk_below (g := gb460) (o := .cells #[.int .i64 t457, .int .i64 t458] 23 (0, 0)) bkx hb)
     have n3_ := Aside0.mk (below_step blx hb)
     clear BK452
     clear BK453
     clear BK460
     clear HB
     have BK452 := n0_
     have BK453 := n1_
     have BK460 := n2_
     have HB := n3_
     clear n0_ n1_ n2_ n3_
     (try clear hb)
     (try clear hb2)
     (try clear hk)
     (try clear hi)
     refine hK.out _ _ ⟨(blk_cell BK452.out 0).trans rfl, (blk_cell BK452.out 1).trans rfl⟩ (fun hHeld => ?_)
     clear hK K
     refine norm_ (a' := ?_) ?_ ?_
     rotate_left
     ·show Act.put _ (some 34) _ = _
      simp only [Act.put, List.setIfInBounds_toArray, List.set_cons_zero, List.set_cons_succ, i64_w, i32_w]
      rfl
     refine one_ (i := 3) (N := some 35) #[true, true, true, true, true, true, true, true, true, false, false] rfl rfl (one_of HT_.out (by kernel_rfl)) (by decide) (fun K hK => ?_)
     refine goes_ Tryd.func72 (by kernel_rfl) rfl #[.int .i64 t465] (by rfl) rfl rfl agx ?_
     with_reducible refine (levyref1_digits.calls kj18 t465 t466 _ A52.out).mono ?_
     rintro e w57 ⟨v467, rfl, ho0, hb⟩
     refine ⟨_, rfl, ?_⟩
     have n0_ := Aside0.mk (Kd.R_lower ho0 (below_size blx))
     have n1_ := Aside0.mk (blk_below (g := gb452) (o := .cells #[.int .i64 a0_0, .int .i64 a0_1] 23 (0, 0)) bkx hb)
     have n2_ := Aside0.mk (blk_below (g := gb453) (o := .cells #[.int .i64 0, .int .i64 0] 23 (0, 0)) bkx hb)
     have n3_ := Aside0.mk (blk_below (g := gb460) (o := .cells #[.int .i64 t457, .int .i64 t458] 23 (0, 0)) bkx hb)
     have n4_ := Aside0.mk (below_step blx hb)
     clear BK452
     clear BK453
     clear BK460
     clear HB
     have HO468 := n0_
     have BK452 := n1_
     have BK453 := n2_
     have BK460 := n3_
     have HB := n4_
     clear n0_ n1_ n2_ n3_ n4_
     (try clear hb)
     (try clear hb2)
     (try clear hk)
     (try clear hi)
     (try clear ho0)
     obtain ⟨Ao58, co58, eo58⟩ := Kd.R_slice HO468.out
     (first | subst eo58 | (injection eo58 with f1_ f2_ f3_; have f4_ := f1_.symm; have f5_ := f3_.symm; clear f1_ f2_ f3_; subst f4_; subst f5_))
     refine hK.out _ _ ⟨(blk_cell BK452.out 0).trans rfl, (blk_cell BK452.out 1).trans rfl⟩ (fun hHeld => ?_)
     clear hK K
     refine norm_ (a' := ?_) ?_ ?_
     rotate_left
     ·show Act.put _ (some 35) _ = _
      simp only [Act.put, List.setIfInBounds_toArray, List.set_cons_zero, List.set_cons_succ, i64_w, i32_w]
      rfl
     refine one_ (i := 9) (N := some 41) #[true, true, true, true, true, true, true, true, true, true, false] rfl rfl (one_of HT_.out (by kernel_rfl)) (by decide) (fun K hK => ?_)
     refine goes_ Tryd.func71 (by kernel_rfl) rfl #[.slice Ao58 t466.length co58, .bool (decide (a0_1 < 0)), .int .i64 a1, .int .i64 a2] (by rfl) rfl rfl agx ?_
     with_reducible refine (levyref1_rounded.calls kj18 _ _ t466 (decide (a0_1 < 0)) a1 a2 t469 _ ?side1 ?side2 A53.out).mono ?_
     (case side1 => repeat (first | exact (Kd.R_reads' HO468.out).2.2 | (with_reducible refine Kd.C_alloc ?_ _) | (with_reducible refine Kd.C_drewN ?_ _) | (with_reducible refine Kd.C_drew ?_)))
     (case side2 => exact (Kd.R_reads' HO468.out).2.1)
     rintro e w59 ⟨rfl, hb⟩
     refine ⟨_, rfl, ?_⟩
     have n0_ := Aside0.mk (Kd.R_below (by (with_reducible repeat (first | apply Kd.R_alloc | apply Kd.R_drewN | apply Kd.R_drew)); exact HO468.out) hb)
     have n1_ := Aside0.mk (blk_below (g := gb452) (o := .cells #[.int .i64 a0_0, .int .i64 a0_1] 23 (0, 0)) bkx hb)
     have n2_ := Aside0.mk (blk_below (g := gb453) (o := .cells #[.int .i64 0, .int .i64 0] 23 (0, 0)) bkx hb)
     have n3_ := Aside0.mk (blk_below (g := gb460) (o := .cells #[.int .i64 t457, .int .i64 t458] 23 (0, 0)) bkx hb)
     have n4_ := Aside0.mk (below_step blx hb)
     clear HO468
     clear BK452
     clear BK453
     clear BK460
     clear HB
     have HO468 := n0_
     have BK452 := n1_
     have BK453 := n2_
     have BK460 := n3_
     have HB := n4_
     clear n0_ n1_ n2_ n3_ n4_
     (try clear hb)
     (try clear hb2)
     (try clear hk)
     (try clear hi)
     refine hK.out _ _ ⟨(blk_cell BK452.out 0).trans rfl, (blk_cell BK452.out 1).trans rfl⟩ (fun hHeld => ?_)
     clear hK K
     refine norm_ (a' := ?_) ?_ ?_
     rotate_left
     ·show Act.put _ (some 41) _ = _
      simp only [Act.put, List.setIfInBounds_toArray, List.set_cons_zero, List.set_cons_succ, i64_w, i32_w]
      rfl
     refine pure_ (i := 10) (N := some 9) (v := ?_) (a' := ?_) #[true, true, true, true, true, true, true, true, true, true, true] rfl rfl (any_of HT_.out (by kernel_rfl)) (fun _ _ _ h => h) (Or.inl ⟨by rfl, ?_⟩) ?_ ?_
     rotate_left
     ·intro w'
      go_simp
      with_reducible rfl
     rotate_left
     ·simp only [Act.put, List.setIfInBounds_toArray, List.set_cons_zero, List.set_cons_succ, i64_w, i32_w]
      rfl
     refine done_ (done_of HT_.out (by kernel_rfl)) ?_
     try go_wp2_with (first | ((with_reducible refine gate_callee (f := 58) rfl ?_); refine goesL_ (some 45) rfl rfl Tryd.func58 (by kernel_rfl) rfl #[.int .i64 1, .int .i64 (wrap64 (t469 * a1))] rfl agx ?_; (with_reducible refine (levyref1_bounded.calls 1 (wrap64 (t469 * a1)) t470 t471 _ A54.out).mono ?_); rintro e w60 ⟨rfl, hb⟩; refine ⟨_, rfl, ?_⟩; have n0_ := Aside0.mk (Kd.R_below (by (with_reducible repeat (first | apply Kd.R_alloc | apply Kd.R_drewN | apply Kd.R_drew)); exact HO468.out) hb); have n1_ := Aside0.mk (blk_below (g := gb452) (o := .cells #[.int .i64 a0_0, .int .i64 a0_1] 23 (0, 0)) bkx hb); have n2_ := Aside0.mk (blk_below (g := gb453) (o := .cells #[.int .i64 0, .int .i64 0] 23 (0, 0)) bkx hb); have n3_ := Aside0.mk (blk_below (g := gb460) (o := .cells #[.int .i64 t457, .int .i64 t458] 23 (0, 0)) bkx hb); have n4_ := Aside0.mk (below_step blx hb); clear HO468; clear BK452; clear BK453; clear BK460; clear HB; have HO468 := n0_; have BK452 := n1_; have BK453 := n2_; have BK460 := n3_; have HB := n4_; clear n0_ n1_ n2_ n3_ n4_; (try clear hb); (try clear hb2); (try clear hk); (try clear hi); have hnb61 := NB453_452.out; have hnc61 := NB452_453.out; have hnb62 := NB453_460.out; have hnc62 := NB460_453.out; have hcz63_0 : w60.cell? ⟨gb453, 0, none⟩ = some (.int .i64 0) := (blk_cell BK453.out 0).trans rfl; have hcz63_1 : w60.cell? ⟨gb453, 1, none⟩ = some (.int .i64 0) := (blk_cell BK453.out 1).trans rfl; have hfz63_0 := blk_frozen BK453.out 0; have hfz63_1 := blk_frozen BK453.out 1))
     refine bodyPost_ret (results_cell_row rfl _ _ gb453 23 #[.int .i64 t470, .int .i64 t471] (0, 0) _ rfl (by (with_reducible repeat (first | refine blk_drewN ?_ _ | refine blk_drew ?_ | refine blk_alloc ?_ _)); refine blk_put (cs := #[.int .i64 t470, .int .i64 0]) ?_ 1 _ rfl; (with_reducible repeat (first | refine blk_drewN ?_ _ | refine blk_drew ?_ | refine blk_alloc ?_ _)); refine blk_put (cs := #[.int .i64 0, .int .i64 0]) ?_ 0 _ rfl; (with_reducible repeat (first | refine blk_drewN ?_ _ | refine blk_drew ?_ | refine blk_alloc ?_ _)); exact BK453.out) Tryd.underlying23 rfl (by kernel_rfl)) rfl ?_
     exact ⟨by first | rfl | (simp [errW_none, errW_some] <;> rfl) | (simp [*, errW_none, errW_some] <;> rfl), blx⟩

end Go.Proofs.YtnjhjaifmgjljaaDoor.PM
