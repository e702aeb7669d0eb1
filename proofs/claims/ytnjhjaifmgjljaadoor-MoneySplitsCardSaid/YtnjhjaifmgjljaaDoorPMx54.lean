-- Written by a program of this session's (wip/tools/myprint.py): a function's plain form and its contract.
import Derived.Test.YtnjhjaifmgjljaaDoorPMx0
import Derived.Test.YtnjhjaifmgjljaaDoorPMx12
import Derived.Test.YtnjhjaifmgjljaaDoorPMx13
import Derived.Test.YtnjhjaifmgjljaaDoorPMx14
import Derived.Test.YtnjhjaifmgjljaaDoorPMx40
import Derived.Test.YtnjhjaifmgjljaaDoorPMx42
import Derived.Test.YtnjhjaifmgjljaaDoorPMx43
import Derived.Test.YtnjhjaifmgjljaaDoorPMx44
namespace Go.Proofs.YtnjhjaifmgjljaaDoor.PM
open Go.RowKit Go.Proofs.YtnjhjaifmgjljaaDoorW.PrintWords Go.Proofs.YtnjhjaifmgjljaaDoorW.PrintLast Go.Proofs.YtnjhjaifmgjljaaDoorW.PrintMore
attribute [local go_sem] max2_int min2_int max_two min_two max_three min_three max_four min_four   -- for this text's walks alone
set_option linter.unusedVariables false
set_option linter.unusedSimpArgs false

/-! ### levyref1_Split: function 48 -/
def levyref1_Split.j0 : Nat → Int → Bool → Int → Int → Int → Int → Option (Int × Int)
 | 0, _, _, _, _, _, _ => none
 | k + 1, x2, x30, x575000, x575001, x576000, x576001 => if x30 = true then ((levyref1_bad.f 5).bind fun bt585 => (some (bt585.1, bt585.2))) else (if x576001 = 0 then ((levyref1_bad.f 2).bind fun bt587 => (some (bt587.1, bt587.2))) else ((levyref1_size.f x575001).bind fun t589 => ((levyref1_digits.f k t589).bind fun t590 => ((levyref1_size.f x576001).bind fun t593 => ((levyref1_rounded.f k t590 ((decide (x575001 < 0)) != (decide (x576001 < 0))) t593 x2).bind fun t594 => ((levyref1_bounded.f 1 t594).bind fun bt595 => (some (bt595.1, bt595.2))))))))
def levyref1_Split.f (k : Nat) (a0_0 : Int) (a0_1 : Int) (a1_0 : Int) (a1_1 : Int) (a2 : Int) : Option (Int × Int) := (levyref1_looked.f k (([(⟨a0_0, a0_1⟩ : S23), (⟨a1_0, a1_1⟩ : S23)] : List (S23)))).bind fun bt580 => (if bt580.2.2 = true then (some (bt580.1, bt580.2.1)) else (if a0_0 = 1 then (if a1_0 = 2 then ((levyref1_isMode.f a2).bind fun t584 => (levyref1_Split.j0 k a2 (!t584) a0_0 a0_1 a1_0 a1_1)) else (levyref1_Split.j0 k a2 true a0_0 a0_1 a1_0 a1_1)) else (levyref1_Split.j0 k a2 true a0_0 a0_1 a1_0 a1_1)))
theorem levyref1_Split.mono_l : ∀ k, (∀ y0 y1 y2 y3 y4 y5, LeO (levyref1_Split.j0 k y0 y1 y2 y3 y4 y5) (levyref1_Split.j0 (k + 1) y0 y1 y2 y3 y4 y5))
 | 0 => fun _ _ _ _ _ _ r h => by simp [levyref1_Split.j0] at h
 | k + 1 => by
  have ih0 := levyref1_Split.mono_l k
  ·intro y0 y1 y2 y3 y4 y5
   unfold levyref1_Split.j0
   repeat' first
   | (with_reducible exact ih0 _ _ _ _ _ _)
   | (with_reducible exact levyref1_digits.mono _ _)
   | (with_reducible exact levyref1_looked.mono _ _)
   | (with_reducible exact levyref1_rounded.mono _ _ _ _ _)
   | (with_reducible exact LeO.refl _)
   | (with_reducible exact LeO.none _)
   | (with_reducible refine LeO.ite ?_ ?_)
   | (with_reducible refine LeO.bind ?_ (fun _ => ?_))
   | exact ih0 _ _ _ _ _ _
   | exact levyref1_digits.mono _ _
   | exact levyref1_looked.mono _ _
   | exact levyref1_rounded.mono _ _ _ _ _
   | exact LeO.none _
   | refine LeO.ite ?_ ?_
   | refine LeO.bind ?_ (fun _ => ?_)
theorem levyref1_Split.mono : ∀ a0 a1 a2 a3 a4 k, LeO (levyref1_Split.f k a0 a1 a2 a3 a4) (levyref1_Split.f (k + 1) a0 a1 a2 a3 a4) := by
 intro a0 a1 a2 a3 a4 k
 have ih0 := levyref1_Split.mono_l k
 unfold levyref1_Split.f
 repeat' first
   | (with_reducible exact ih0 _ _ _ _ _ _)
   | (with_reducible exact levyref1_digits.mono _ _)
   | (with_reducible exact levyref1_looked.mono _ _)
   | (with_reducible exact levyref1_rounded.mono _ _ _ _ _)
   | (with_reducible exact LeO.refl _)
   | (with_reducible exact LeO.none _)
   | (with_reducible refine LeO.ite ?_ ?_)
   | (with_reducible refine LeO.bind ?_ (fun _ => ?_))
   | exact ih0 _ _ _ _ _ _
   | exact levyref1_digits.mono _ _
   | exact levyref1_looked.mono _ _
   | exact levyref1_rounded.mono _ _ _ _ _
   | exact LeO.none _
   | refine LeO.ite ?_ ?_
   | refine LeO.bind ?_ (fun _ => ?_)
def levyref1_Split.T8 : Bool × List (List Nat × List Nat) := (true, [([], []), ([0], [0]), ([1], [1]), ([2, 2], [2]), ([], []), ([4], [4]), ([5], [5]), ([], []), ([7], [7]), ([8], [8]), ([6, 9], [6, 9]), ([], []), ([11], [11]), ([12, 3], [12]), ([], []), ([3, 10, 13, 14, 13], [3, 10, 13, 14]), ([15, 15], [15]), ([16, 16, 0, 1, 2, 3, 4, 5, 6, 7, 8, 9, 10, 11, 12, 13, 14, 15, 16], [16])])
def levyref1_Split.B8 : List Nat := [0, 1, 3, 7, 0, 16, 48, 0, 128, 384, 1008, 0, 2048, 6159, 0, 32767, 65535, 131071]
theorem levyref1_Split.tab8 : rtab .any (opsOf Tryd.f48 8) = levyref1_Split.T8 := by kernel_rfl
theorem levyref1_Split.bits8 : waitsOk levyref1_Split.T8.2 levyref1_Split.B8 = true := by kernel_rfl
set_option maxHeartbeats 8000000 in
set_option maxRecDepth 100000 in
theorem levyref1_Split.calls (k : Nat) (a0_0 : Int) (a0_1 : Int) (a1_0 : Int) (a1_1 : Int) (a2 : Int) (r1 : Int) (r2 : Int) (w : World) (h : levyref1_Split.f k a0_0 a0_1 a1_0 a1_1 a2 = some (r1, r2)) :
  Calls Tryd.prog 48 #[.agg #[.int .i64 a0_0, .int .i64 a0_1], .agg #[.int .i64 a1_0, .int .i64 a1_1], .int .i64 a2] w fun e w' => e = .returned (.agg #[.int .i64 r1, .int .i64 r2]) ∧ Below w.heap.size w w' := by
 have hu23 := Tryd.underlying23
 have HB := Aside0.mk (Below.refl w.heap.size w)
 have H : ((levyref1_looked.f k (([(⟨a0_0, a0_1⟩ : S23), (⟨a1_0, a1_1⟩ : S23)] : List (S23)))).bind fun bt580 => (if bt580.2.2 = true then (some (bt580.1, bt580.2.1)) else (if a0_0 = 1 then (if a1_0 = 2 then ((levyref1_isMode.f a2).bind fun t584 => (levyref1_Split.j0 k a2 (!t584) a0_0 a0_1 a1_0 a1_1)) else (levyref1_Split.j0 k a2 true a0_0 a0_1 a1_0 a1_1)) else (levyref1_Split.j0 k a2 true a0_0 a0_1 a1_0 a1_1)))) = some (r1, r2) := h
 clear h
 obtain ⟨y577, hy577⟩ : ∃ y_ : List (S23), y_ = (([(⟨a0_0, a0_1⟩ : S23), (⟨a1_0, a1_1⟩ : S23)] : List (S23))) := ⟨_, rfl⟩
 replace H : ((levyref1_looked.f k y577).bind fun bt580 => (if bt580.2.2 = true then (some (bt580.1, bt580.2.1)) else (if a0_0 = 1 then (if a1_0 = 2 then ((levyref1_isMode.f a2).bind fun t584 => (levyref1_Split.j0 k a2 (!t584) a0_0 a0_1 a1_0 a1_1)) else (levyref1_Split.j0 k a2 true a0_0 a0_1 a1_0 a1_1)) else (levyref1_Split.j0 k a2 true a0_0 a0_1 a1_0 a1_1)))) = some (r1, r2) := by first | (rw [hy577]; with_reducible exact H) | (have H2_ := (Option.bind_some _ _).symm.trans H; rw [hy577]; with_reducible exact H2_) | (have H2_ := (Option.bind_some _ _).symm.trans H; with_reducible exact H2_) | with_reducible exact H | (rw [hy577]; exact H) | exact H
 have Ny577 := Aside0.mk hy577
 clear hy577
 replace H := Option.bind_eq_some_iff.mp H
 obtain ⟨⟨t580, t581, t582⟩, A40, H⟩ := H
 replace H : (if t582 = true then (some (t580, t581)) else (if a0_0 = 1 then (if a1_0 = 2 then ((levyref1_isMode.f a2).bind fun t584 => (levyref1_Split.j0 k a2 (!t584) a0_0 a0_1 a1_0 a1_1)) else (levyref1_Split.j0 k a2 true a0_0 a0_1 a1_0 a1_1)) else (levyref1_Split.j0 k a2 true a0_0 a0_1 a1_0 a1_1))) = some (r1, r2) := H
 have A4 := Aside0.mk A40
 clear A40
 by_cases c5 : t582 = true
 ·subst c5
  have H1 : (some (t580, t581)) = some (r1, r2) := by rw [if_pos rfl] at H; exact H
  clear H
  have H := H1
  clear H1
  simp only [Option.some.injEq, Prod.mk.injEq] at H
  obtain ⟨rfl, rfl⟩ := H
  go_enter Tryd.func48, Tryd.ntmps48
  go_wp2_with (first | ((with_reducible refine gate_dst (N := 3) rfl ?_); refine box_event ?hg (N := 3) ?hd (cs := #[.int .i64 a0_0, .int .i64 a0_1]) (t := 23) ?hr ?_; (case hd => rfl); (case hg => rfl); (case hr => first | (go_simp; done) | (go_simp; rfl)); intro gb574 hg w6 hbox hb; have n0_ := Aside0.mk (below_step blx hb); have n1_ := Aside0.mk (hbox); have n2_ := Aside0.mk ((by rw [hg]; exact (below_size blx) : w.heap.size ≤ gb574)); have n3_ := Aside0.mk ((by rw [hg]; exact (below_size blx) : w.heap.size ≤ gb574)); clear HB; have HB := n0_; have BK574 := n1_; have GW574 := n2_; have GE574 := n3_; clear n0_ n1_ n2_ n3_; clear hb hbox hg) | ((with_reducible refine gate_dst (N := 4) rfl ?_); refine box_event ?hg (N := 4) ?hd (cs := #[.int .i64 a1_0, .int .i64 a1_1]) (t := 23) ?hr ?_; (case hd => rfl); (case hg => rfl); (case hr => first | (go_simp; done) | (go_simp; rfl)); intro gb575 hg w7 hbox hb; have n0_ := Aside0.mk (blk_below (g := gb574) (o := .cells #[.int .i64 a0_0, .int .i64 a0_1] 23 (0, 0)) bkx hb); have n1_ := Aside0.mk (below_step blx hb); have n2_ := Aside0.mk (hbox); have n3_ := Aside0.mk ((by rw [hg]; exact (below_size blx) : w.heap.size ≤ gb575)); have n4_ := Aside0.mk ((by rw [hg]; exact (below_size blx) : w.heap.size ≤ gb575)); have n5_ := Aside0.mk ((by rw [hg]; exact Nat.ne_of_lt (blk_lt (g := gb574) (o := .cells #[.int .i64 a0_0, .int .i64 a0_1] 23 (0, 0)) bkx) : gb574 ≠ gb575)); have n6_ := Aside0.mk ((by rw [hg]; exact Nat.ne_of_gt (blk_lt (g := gb574) (o := .cells #[.int .i64 a0_0, .int .i64 a0_1] 23 (0, 0)) bkx) : gb575 ≠ gb574)); clear BK574; clear HB; have BK574 := n0_; have HB := n1_; have BK575 := n2_; have GW575 := n3_; have GE575 := n4_; have NB574_575 := n5_; have NB575_574 := n6_; clear n0_ n1_ n2_ n3_ n4_ n5_ n6_; clear hb hbox hg) | ((with_reducible refine gate_dst (N := 6) rfl ?_); refine box_event ?hg (N := 6) ?hd (cs := #[.int .i64 0, .int .i64 0]) (t := 23) ?hr ?_; (case hd => rfl); (case hg => rfl); (case hr => first | (go_simp; done) | (go_simp; rfl)); intro gb576 hg w8 hbox hb; have n0_ := Aside0.mk (blk_below (g := gb574) (o := .cells #[.int .i64 a0_0, .int .i64 a0_1] 23 (0, 0)) bkx hb); have n1_ := Aside0.mk (blk_below (g := gb575) (o := .cells #[.int .i64 a1_0, .int .i64 a1_1] 23 (0, 0)) bkx hb); have n2_ := Aside0.mk (below_step blx hb); have n3_ := Aside0.mk (hbox); have n4_ := Aside0.mk ((by rw [hg]; exact (below_size blx) : w.heap.size ≤ gb576)); have n5_ := Aside0.mk ((by rw [hg]; exact (below_size blx) : w.heap.size ≤ gb576)); have n6_ := Aside0.mk ((by rw [hg]; exact Nat.ne_of_lt (blk_lt (g := gb574) (o := .cells #[.int .i64 a0_0, .int .i64 a0_1] 23 (0, 0)) bkx) : gb574 ≠ gb576)); have n7_ := Aside0.mk ((by rw [hg]; exact Nat.ne_of_gt (blk_lt (g := gb574) (o := .cells #[.int .i64 a0_0, .int .i64 a0_1] 23 (0, 0)) bkx) : gb576 ≠ gb574)); have n8_ := Aside0.mk ((by rw [hg]; exact Nat.ne_of_lt (blk_lt (g := gb575) (o := .cells #[.int .i64 a1_0, .int .i64 a1_1] 23 (0, 0)) bkx) : gb575 ≠ gb576)); have n9_ := Aside0.mk ((by rw [hg]; exact Nat.ne_of_gt (blk_lt (g := gb575) (o := .cells #[.int .i64 a1_0, .int .i64 a1_1] 23 (0, 0)) bkx) : gb576 ≠ gb575)); clear BK574; clear BK575; clear HB; have BK574 := n0_; have BK575 := n1_; have HB := n2_; have BK576 := n3_; have GW576 := n4_; have GE576 := n5_; have NB574_576 := n6_; have NB576_574 := n7_; have NB575_576 := n8_; have NB576_575 := n9_; clear n0_ n1_ n2_ n3_ n4_ n5_ n6_ n7_ n8_ n9_; clear hb hbox hg; have hnb9 := NB574_575.out; have hnc9 := NB575_574.out; have hnb10 := NB574_576.out; have hnc10 := NB576_574.out; have hcz11_0 : w8.cell? ⟨gb574, 0, none⟩ = some (.int .i64 a0_0) := (blk_cell BK574.out 0).trans rfl; have hcz11_1 : w8.cell? ⟨gb574, 1, none⟩ = some (.int .i64 a0_1) := (blk_cell BK574.out 1).trans rfl; have hfz11_0 := blk_frozen BK574.out 0; have hfz11_1 := blk_frozen BK574.out 1; have hnb12 := NB575_576.out; have hnc12 := NB576_575.out; have hcz13_0 : w8.cell? ⟨gb575, 0, none⟩ = some (.int .i64 a1_0) := (blk_cell BK575.out 0).trans rfl; have hcz13_1 : w8.cell? ⟨gb575, 1, none⟩ = some (.int .i64 a1_1) := (blk_cell BK575.out 1).trans rfl; have hfz13_0 := blk_frozen BK575.out 0; have hfz13_1 := blk_frozen BK575.out 1) | ((with_reducible refine gate_dst (N := 12) rfl ?_); refine Kd.R_lit k23 _ 23 ?hg (N := 12) ?hd (xs := ([(⟨a0_0, a0_1⟩ : S23), (⟨a1_0, a1_1⟩ : S23)] : List (S23))) (inner := [.int .i64 a0_0, .int .i64 a0_1, .int .i64 a1_0, .int .i64 a1_1]) (ok := fun _ => True) (okp := fun _ => True) ?hr ?hp (fun _ hk => hk) trivial (Below.refl _ _) (Nat.le_refl _) (by simp) ?_; (case hd => rfl); (case hg => rfl); (case hr => first | (go_simp; done) | (go_simp; rfl)); (case hp => exact (Reps.c2 (show Kd.M k23 _ _ _ (⟨a0_0, a0_1⟩ : S23) [.int .i64 a0_0, .int .i64 a0_1] from (k23_mkM _ _ _ (⟨a0_0, a0_1⟩ : S23) )) (Reps.c2 (show Kd.M k23 _ _ _ (⟨a1_0, a1_1⟩ : S23) [.int .i64 a1_0, .int .i64 a1_1] from (k23_mkM _ _ _ (⟨a1_0, a1_1⟩ : S23) )) (Reps.none _ _)))); intro v578 w14 ho15 hb hg_ hnew_; clear hg_ hnew_; (first | rw [← Ny577.out] at ho15 | (simp only [Int.reduceToNat] at ho15; rw [← Ny577.out] at ho15)); have n0_ := Aside0.mk (Kd.R_lower (Kd.R_newB (Kd.R_newB (Kd.R_newB ho15 (g := gb574) (o := .cells #[.int .i64 a0_0, .int .i64 a0_1] 23 (0, 0)) bkx) (g := gb575) (o := .cells #[.int .i64 a1_0, .int .i64 a1_1] 23 (0, 0)) bkx) (g := gb576) (o := .cells #[.int .i64 0, .int .i64 0] 23 (0, 0)) bkx) (below_size blx)); have n1_ := Aside0.mk (blk_below (g := gb574) (o := .cells #[.int .i64 a0_0, .int .i64 a0_1] 23 (0, 0)) bkx hb); have n2_ := Aside0.mk (blk_below (g := gb575) (o := .cells #[.int .i64 a1_0, .int .i64 a1_1] 23 (0, 0)) bkx hb); have n3_ := Aside0.mk (blk_below (g := gb576) (o := .cells #[.int .i64 0, .int .i64 0] 23 (0, 0)) bkx hb); have n4_ := Aside0.mk (below_step blx hb); clear BK574; clear BK575; clear BK576; clear HB; have HO579 := n0_; have BK574 := n1_; have BK575 := n2_; have BK576 := n3_; have HB := n4_; clear n0_ n1_ n2_ n3_ n4_; clear hb ho15; obtain ⟨Ao16, co16, eo16⟩ := Kd.R_slice HO579.out; subst eo16) | ((with_reducible refine gate_callee (f := 63) rfl ?_); refine goesL_ (some 13) rfl rfl Tryd.func63 (by kernel_rfl) rfl #[.slice Ao16 y577.length co16] rfl agx ?_; (with_reducible refine (levyref1_looked.calls k _ _ y577 t580 t581 true _ ?side1 ?side2 A4.out).mono ?_); (case side1 => repeat (first | exact (Kd.R_reads' HO579.out).2.2 | (with_reducible refine Kd.C_alloc ?_ _) | (with_reducible refine Kd.C_drewN ?_ _) | (with_reducible refine Kd.C_drew ?_))); (case side2 => exact (Kd.R_reads' HO579.out).2.1); rintro e w17 ⟨rfl, hb⟩; refine ⟨_, rfl, ?_⟩; have n0_ := Aside0.mk (Kd.R_below (by (with_reducible repeat (first | apply Kd.R_alloc | apply Kd.R_drewN | apply Kd.R_drew)); exact HO579.out) hb); have n1_ := Aside0.mk (blk_below (g := gb574) (o := .cells #[.int .i64 a0_0, .int .i64 a0_1] 23 (0, 0)) bkx hb); have n2_ := Aside0.mk (blk_below (g := gb575) (o := .cells #[.int .i64 a1_0, .int .i64 a1_1] 23 (0, 0)) bkx hb); have n3_ := Aside0.mk (blk_below (g := gb576) (o := .cells #[.int .i64 0, .int .i64 0] 23 (0, 0)) bkx hb); have n4_ := Aside0.mk (below_step blx hb); clear HO579; clear BK574; clear BK575; clear BK576; clear HB; have HO579 := n0_; have BK574 := n1_; have BK575 := n2_; have BK576 := n3_; have HB := n4_; clear n0_ n1_ n2_ n3_ n4_; (try clear hb); (try clear hb2); (try clear hk); (try clear hi)) | ((with_reducible refine gate_dst (N := 7) rfl ?_); refine box_event ?hg (N := 7) ?hd (cs := #[.int .i64 0, .int .i64 0]) (t := 23) ?hr ?_; (case hd => rfl); (case hg => rfl); (case hr => first | (go_simp; done) | (go_simp; rfl)); intro gb583 hg w18 hbox hb; have n0_ := Aside0.mk (Kd.R_below (Kd.R_elderB (by (with_reducible repeat (first | apply Kd.R_alloc | apply Kd.R_drewN | apply Kd.R_drew)); exact HO579.out) gb583 (Nat.le_of_eq hg.symm)) hb); have n1_ := Aside0.mk (blk_below (g := gb574) (o := .cells #[.int .i64 a0_0, .int .i64 a0_1] 23 (0, 0)) bkx hb); have n2_ := Aside0.mk (blk_below (g := gb575) (o := .cells #[.int .i64 a1_0, .int .i64 a1_1] 23 (0, 0)) bkx hb); have n3_ := Aside0.mk (blk_below (g := gb576) (o := .cells #[.int .i64 0, .int .i64 0] 23 (0, 0)) bkx hb); have n4_ := Aside0.mk (below_step blx hb); have n5_ := Aside0.mk (hbox); have n6_ := Aside0.mk ((by rw [hg]; exact (below_size blx) : w.heap.size ≤ gb583)); have n7_ := Aside0.mk ((by rw [hg]; exact (below_size blx) : w.heap.size ≤ gb583)); have n8_ := Aside0.mk ((by rw [hg]; exact Nat.ne_of_lt (blk_lt (g := gb574) (o := .cells #[.int .i64 a0_0, .int .i64 a0_1] 23 (0, 0)) bkx) : gb574 ≠ gb583)); have n9_ := Aside0.mk ((by rw [hg]; exact Nat.ne_of_gt (blk_lt (g := gb574) (o := .cells #[.int .i64 a0_0, .int .i64 a0_1] 23 (0, 0)) bkx) : gb583 ≠ gb574)); have n10_ := Aside0.mk ((by rw [hg]; exact Nat.ne_of_lt (blk_lt (g := gb575) (o := .cells #[.int .i64 a1_0, .int .i64 a1_1] 23 (0, 0)) bkx) : gb575 ≠ gb583)); have n11_ := Aside0.mk ((by rw [hg]; exact Nat.ne_of_gt (blk_lt (g := gb575) (o := .cells #[.int .i64 a1_0, .int .i64 a1_1] 23 (0, 0)) bkx) : gb583 ≠ gb575)); have n12_ := Aside0.mk ((by rw [hg]; exact Nat.ne_of_lt (blk_lt (g := gb576) (o := .cells #[.int .i64 0, .int .i64 0] 23 (0, 0)) bkx) : gb576 ≠ gb583)); have n13_ := Aside0.mk ((by rw [hg]; exact Nat.ne_of_gt (blk_lt (g := gb576) (o := .cells #[.int .i64 0, .int .i64 0] 23 (0, 0)) bkx) : gb583 ≠ gb576)); clear HO579; clear BK574; clear BK575; clear BK576; clear HB; have HO579 := n0_; have BK574 := n1_; have BK575 := n2_; have BK576 := n3_; have HB := n4_; have BK583 := n5_; have GW583 := n6_; have GE583 := n7_; have NB574_583 := n8_; have NB583_574 := n9_; have NB575_583 := n10_; have NB583_575 := n11_; have NB576_583 := n12_; have NB583_576 := n13_; clear n0_ n1_ n2_ n3_ n4_ n5_ n6_ n7_ n8_ n9_ n10_ n11_ n12_ n13_; clear hb hbox hg; have hnb19 := NB583_574.out; have hnc19 := NB574_583.out; have hnb20 := NB583_575.out; have hnc20 := NB575_583.out; have hnb21 := NB583_576.out; have hnc21 := NB576_583.out; have hcz22_0 : w18.cell? ⟨gb583, 0, none⟩ = some (.int .i64 0) := (blk_cell BK583.out 0).trans rfl; have hcz22_1 : w18.cell? ⟨gb583, 1, none⟩ = some (.int .i64 0) := (blk_cell BK583.out 1).trans rfl; have hfz22_0 := blk_frozen BK583.out 0; have hfz22_1 := blk_frozen BK583.out 1; have hcz23_0 : w18.cell? ⟨gb576, 0, none⟩ = some (.int .i64 0) := (blk_cell BK576.out 0).trans rfl; have hcz23_1 : w18.cell? ⟨gb576, 1, none⟩ = some (.int .i64 0) := (blk_cell BK576.out 1).trans rfl; have hfz23_0 := blk_frozen BK576.out 0; have hfz23_1 := blk_frozen BK576.out 1))
  refine bodyPost_ret (results_cell_row rfl _ _ gb576 23 #[.int .i64 t580, .int .i64 t581] (0, 0) _ rfl (by (with_reducible repeat (first | refine blk_drewN ?_ _ | refine blk_drew ?_ | refine blk_alloc ?_ _)); refine blk_put (cs := #[.int .i64 t580, .int .i64 0]) ?_ 1 _ rfl; (with_reducible repeat (first | refine blk_drewN ?_ _ | refine blk_drew ?_ | refine blk_alloc ?_ _)); refine blk_put (cs := #[.int .i64 0, .int .i64 0]) ?_ 0 _ rfl; (with_reducible repeat (first | refine blk_drewN ?_ _ | refine blk_drew ?_ | refine blk_alloc ?_ _)); refine blk_far ?_ NB576_583.out _; (with_reducible repeat (first | refine blk_drewN ?_ _ | refine blk_drew ?_ | refine blk_alloc ?_ _)); refine blk_far ?_ NB576_583.out _; (with_reducible repeat (first | refine blk_drewN ?_ _ | refine blk_drew ?_ | refine blk_alloc ?_ _)); exact BK576.out) Tryd.underlying23 rfl (by kernel_rfl)) rfl ?_
  exact ⟨by first | rfl | (simp [errW_none, errW_some] <;> rfl) | (simp [*, errW_none, errW_some] <;> rfl), blx⟩
 ·replace c5 := Bool.eq_false_iff.mpr c5
  subst c5
  have H1 : (if a0_0 = 1 then (if a1_0 = 2 then ((levyref1_isMode.f a2).bind fun t584 => (levyref1_Split.j0 k a2 (!t584) a0_0 a0_1 a1_0 a1_1)) else (levyref1_Split.j0 k a2 true a0_0 a0_1 a1_0 a1_1)) else (levyref1_Split.j0 k a2 true a0_0 a0_1 a1_0 a1_1)) = some (r1, r2) := by rw [if_neg (show ¬ (false = true) by decide)] at H; exact H
  clear H
  have H := H1
  clear H1
  have HC24 := Aside0.mk H
  clear H
  go_enter Tryd.func48, Tryd.ntmps48
  go_upto_region 4 with (first | ((with_reducible refine gate_dst (N := 3) rfl ?_); refine box_event ?hg (N := 3) ?hd (cs := #[.int .i64 a0_0, .int .i64 a0_1]) (t := 23) ?hr ?_; (case hd => rfl); (case hg => rfl); (case hr => first | (go_simp; done) | (go_simp; rfl)); intro gb574 hg w25 hbox hb; have n0_ := Aside0.mk (below_step blx hb); have n1_ := Aside0.mk (hbox); have n2_ := Aside0.mk ((by rw [hg]; exact (below_size blx) : w.heap.size ≤ gb574)); have n3_ := Aside0.mk ((by rw [hg]; exact (below_size blx) : w.heap.size ≤ gb574)); clear HB; have HB := n0_; have BK574 := n1_; have GW574 := n2_; have GE574 := n3_; clear n0_ n1_ n2_ n3_; clear hb hbox hg) | ((with_reducible refine gate_dst (N := 4) rfl ?_); refine box_event ?hg (N := 4) ?hd (cs := #[.int .i64 a1_0, .int .i64 a1_1]) (t := 23) ?hr ?_; (case hd => rfl); (case hg => rfl); (case hr => first | (go_simp; done) | (go_simp; rfl)); intro gb575 hg w26 hbox hb; have n0_ := Aside0.mk (blk_below (g := gb574) (o := .cells #[.int .i64 a0_0, .int .i64 a0_1] 23 (0, 0)) bkx hb); have n1_ := Aside0.mk (below_step blx hb); have n2_ := Aside0.mk (hbox); have n3_ := Aside0.mk ((by rw [hg]; exact (below_size blx) : w.heap.size ≤ gb575)); have n4_ := Aside0.mk ((by rw [hg]; exact (below_size blx) : w.heap.size ≤ gb575)); have n5_ := Aside0.mk ((by rw [hg]; exact Nat.ne_of_lt (blk_lt (g := gb574) (o := .cells #[.int .i64 a0_0, .int .i64 a0_1] 23 (0, 0)) bkx) : gb574 ≠ gb575)); have n6_ := Aside0.mk ((by rw [hg]; exact Nat.ne_of_gt (blk_lt (g := gb574) (o := .cells #[.int .i64 a0_0, .int .i64 a0_1] 23 (0, 0)) bkx) : gb575 ≠ gb574)); clear BK574; clear HB; have BK574 := n0_; have HB := n1_; have BK575 := n2_; have GW575 := n3_; have GE575 := n4_; have NB574_575 := n5_; have NB575_574 := n6_; clear n0_ n1_ n2_ n3_ n4_ n5_ n6_; clear hb hbox hg) | ((with_reducible refine gate_dst (N := 6) rfl ?_); refine box_event ?hg (N := 6) ?hd (cs := #[.int .i64 0, .int .i64 0]) (t := 23) ?hr ?_; (case hd => rfl); (case hg => rfl); (case hr => first | (go_simp; done) | (go_simp; rfl)); intro gb576 hg w27 hbox hb; have n0_ := Aside0.mk (blk_below (g := gb574) (o := .cells #[.int .i64 a0_0, .int .i64 a0_1] 23 (0, 0)) bkx hb); have n1_ := Aside0.mk (blk_below (g := gb575) (o := .cells #[.int .i64 a1_0, .int .i64 a1_1] 23 (0, 0)) bkx hb); have n2_ := Aside0.mk (below_step blx hb); have n3_ := Aside0.mk (hbox); have n4_ := Aside0.mk ((by rw [hg]; exact (below_size blx) : w.heap.size ≤ gb576)); have n5_ := Aside0.mk ((by rw [hg]; exact (below_size blx) : w.heap.size ≤ gb576)); have n6_ := Aside0.mk ((by rw [hg]; exact Nat.ne_of_lt (blk_lt (g := gb574) (o := .cells #[.int .i64 a0_0, .int .i64 a0_1] 23 (0, 0)) bkx) : gb574 ≠ gb576)); have n7_ := Aside0.mk ((by rw [hg]; exact Nat.ne_of_gt (blk_lt (g := gb574) (o := .cells #[.int .i64 a0_0, .int .i64 a0_1] 23 (0, 0)) bkx) : gb576 ≠ gb574)); have n8_ := Aside0.mk ((by rw [hg]; exact Nat.ne_of_lt (blk_lt (g := gb575) (o := .cells #[.int .i64 a1_0, .int .i64 a1_1] 23 (0, 0)) bkx) : gb575 ≠ gb576)); have n9_ := Aside0.mk ((by rw [hg]; exact Nat.ne_of_gt (blk_lt (g := gb575) (o := .cells #[.int .i64 a1_0, .int .i64 a1_1] 23 (0, 0)) bkx) : gb576 ≠ gb575)); clear BK574; clear BK575; clear HB; have BK574 := n0_; have BK575 := n1_; have HB := n2_; have BK576 := n3_; have GW576 := n4_; have GE576 := n5_; have NB574_576 := n6_; have NB576_574 := n7_; have NB575_576 := n8_; have NB576_575 := n9_; clear n0_ n1_ n2_ n3_ n4_ n5_ n6_ n7_ n8_ n9_; clear hb hbox hg; have hnb28 := NB574_575.out; have hnc28 := NB575_574.out; have hnb29 := NB574_576.out; have hnc29 := NB576_574.out; have hcz30_0 : w27.cell? ⟨gb574, 0, none⟩ = some (.int .i64 a0_0) := (blk_cell BK574.out 0).trans rfl; have hcz30_1 : w27.cell? ⟨gb574, 1, none⟩ = some (.int .i64 a0_1) := (blk_cell BK574.out 1).trans rfl; have hfz30_0 := blk_frozen BK574.out 0; have hfz30_1 := blk_frozen BK574.out 1; have hnb31 := NB575_576.out; have hnc31 := NB576_575.out; have hcz32_0 : w27.cell? ⟨gb575, 0, none⟩ = some (.int .i64 a1_0) := (blk_cell BK575.out 0).trans rfl; have hcz32_1 : w27.cell? ⟨gb575, 1, none⟩ = some (.int .i64 a1_1) := (blk_cell BK575.out 1).trans rfl; have hfz32_0 := blk_frozen BK575.out 0; have hfz32_1 := blk_frozen BK575.out 1) | ((with_reducible refine gate_dst (N := 12) rfl ?_); refine Kd.R_lit k23 _ 23 ?hg (N := 12) ?hd (xs := ([(⟨a0_0, a0_1⟩ : S23), (⟨a1_0, a1_1⟩ : S23)] : List (S23))) (inner := [.int .i64 a0_0, .int .i64 a0_1, .int .i64 a1_0, .int .i64 a1_1]) (ok := fun _ => True) (okp := fun _ => True) ?hr ?hp (fun _ hk => hk) trivial (Below.refl _ _) (Nat.le_refl _) (by simp) ?_; (case hd => rfl); (case hg => rfl); (case hr => first | (go_simp; done) | (go_simp; rfl)); (case hp => exact (Reps.c2 (show Kd.M k23 _ _ _ (⟨a0_0, a0_1⟩ : S23) [.int .i64 a0_0, .int .i64 a0_1] from (k23_mkM _ _ _ (⟨a0_0, a0_1⟩ : S23) )) (Reps.c2 (show Kd.M k23 _ _ _ (⟨a1_0, a1_1⟩ : S23) [.int .i64 a1_0, .int .i64 a1_1] from (k23_mkM _ _ _ (⟨a1_0, a1_1⟩ : S23) )) (Reps.none _ _)))); intro v578 w33 ho34 hb hg_ hnew_; clear hg_ hnew_; (first | rw [← Ny577.out] at ho34 | (simp only [Int.reduceToNat] at ho34; rw [← Ny577.out] at ho34)); have n0_ := Aside0.mk (Kd.R_lower (Kd.R_newB (Kd.R_newB (Kd.R_newB ho34 (g := gb574) (o := .cells #[.int .i64 a0_0, .int .i64 a0_1] 23 (0, 0)) bkx) (g := gb575) (o := .cells #[.int .i64 a1_0, .int .i64 a1_1] 23 (0, 0)) bkx) (g := gb576) (o := .cells #[.int .i64 0, .int .i64 0] 23 (0, 0)) bkx) (below_size blx)); have n1_ := Aside0.mk (blk_below (g := gb574) (o := .cells #[.int .i64 a0_0, .int .i64 a0_1] 23 (0, 0)) bkx hb); have n2_ := Aside0.mk (blk_below (g := gb575) (o := .cells #[.int .i64 a1_0, .int .i64 a1_1] 23 (0, 0)) bkx hb); have n3_ := Aside0.mk (blk_below (g := gb576) (o := .cells #[.int .i64 0, .int .i64 0] 23 (0, 0)) bkx hb); have n4_ := Aside0.mk (below_step blx hb); clear BK574; clear BK575; clear BK576; clear HB; have HO579 := n0_; have BK574 := n1_; have BK575 := n2_; have BK576 := n3_; have HB := n4_; clear n0_ n1_ n2_ n3_ n4_; clear hb ho34; obtain ⟨Ao35, co35, eo35⟩ := Kd.R_slice HO579.out; subst eo35) | ((with_reducible refine gate_callee (f := 63) rfl ?_); refine goesL_ (some 13) rfl rfl Tryd.func63 (by kernel_rfl) rfl #[.slice Ao35 y577.length co35] rfl agx ?_; (with_reducible refine (levyref1_looked.calls k _ _ y577 t580 t581 false _ ?side1 ?side2 A4.out).mono ?_); (case side1 => repeat (first | exact (Kd.R_reads' HO579.out).2.2 | (with_reducible refine Kd.C_alloc ?_ _) | (with_reducible refine Kd.C_drewN ?_ _) | (with_reducible refine Kd.C_drew ?_))); (case side2 => exact (Kd.R_reads' HO579.out).2.1); rintro e w36 ⟨rfl, hb⟩; refine ⟨_, rfl, ?_⟩; have n0_ := Aside0.mk (Kd.R_below (by (with_reducible repeat (first | apply Kd.R_alloc | apply Kd.R_drewN | apply Kd.R_drew)); exact HO579.out) hb); have n1_ := Aside0.mk (blk_below (g := gb574) (o := .cells #[.int .i64 a0_0, .int .i64 a0_1] 23 (0, 0)) bkx hb); have n2_ := Aside0.mk (blk_below (g := gb575) (o := .cells #[.int .i64 a1_0, .int .i64 a1_1] 23 (0, 0)) bkx hb); have n3_ := Aside0.mk (blk_below (g := gb576) (o := .cells #[.int .i64 0, .int .i64 0] 23 (0, 0)) bkx hb); have n4_ := Aside0.mk (below_step blx hb); clear HO579; clear BK574; clear BK575; clear BK576; clear HB; have HO579 := n0_; have BK574 := n1_; have BK575 := n2_; have BK576 := n3_; have HB := n4_; clear n0_ n1_ n2_ n3_ n4_; (try clear hb); (try clear hb2); (try clear hk); (try clear hi)) | ((with_reducible refine gate_dst (N := 7) rfl ?_); refine box_event ?hg (N := 7) ?hd (cs := #[.int .i64 0, .int .i64 0]) (t := 23) ?hr ?_; (case hd => rfl); (case hg => rfl); (case hr => first | (go_simp; done) | (go_simp; rfl)); intro gb583 hg w37 hbox hb; have n0_ := Aside0.mk (Kd.R_below (Kd.R_elderB (by (with_reducible repeat (first | apply Kd.R_alloc | apply Kd.R_drewN | apply Kd.R_drew)); exact HO579.out) gb583 (Nat.le_of_eq hg.symm)) hb); have n1_ := Aside0.mk (blk_below (g := gb574) (o := .cells #[.int .i64 a0_0, .int .i64 a0_1] 23 (0, 0)) bkx hb); have n2_ := Aside0.mk (blk_below (g := gb575) (o := .cells #[.int .i64 a1_0, .int .i64 a1_1] 23 (0, 0)) bkx hb); have n3_ := Aside0.mk (blk_below (g := gb576) (o := .cells #[.int .i64 0, .int .i64 0] 23 (0, 0)) bkx hb); have n4_ := Aside0.mk (below_step blx hb); have n5_ := Aside0.mk (hbox); have n6_ := Aside0.mk ((by rw [hg]; exact (below_size blx) : w.heap.size ≤ gb583)); have n7_ := Aside0.mk ((by rw [hg]; exact (below_size blx) : w.heap.size ≤ gb583)); have n8_ := Aside0.mk ((by rw [hg]; exact Nat.ne_of_lt (blk_lt (g := gb574) (o := .cells #[.int .i64 a0_0, .int .i64 a0_1] 23 (0, 0)) bkx) : gb574 ≠ gb583)); have n9_ := Aside0.mk ((by rw [hg]; exact Nat.ne_of_gt (blk_lt (g := gb574) (o := .cells #[.int .i64 a0_0, .int .i64 a0_1] 23 (0, 0)) bkx) : gb583 ≠ gb574)); have n10_ := Aside0.mk ((by rw [hg]; exact Nat.ne_of_lt (blk_lt (g := gb575) (o := .cells #[.int .i64 a1_0, .int .i64 a1_1] 23 (0, 0)) bkx) : gb575 ≠ gb583)); have n11_ := Aside0.mk ((by rw [hg]; exact Nat.ne_of_gt (blk_lt (g := gb575) (o := .cells #[.int .i64 a1_0, .int .i64 a1_1] 23 (0, 0)) bkx) : gb583 ≠ gb575)); have n12_ := Aside0.mk ((by rw [hg]; exact Nat.ne_of_lt (blk_lt (g := gb576) (o := .cells #[.int .i64 0, .int .i64 0] 23 (0, 0)) bkx) : gb576 ≠ gb583)); have n13_ := Aside0.mk ((by rw [hg]; exact Nat.ne_of_gt (blk_lt (g := gb576) (o := .cells #[.int .i64 0, .int .i64 0] 23 (0, 0)) bkx) : gb583 ≠ gb576)); clear HO579; clear BK574; clear BK575; clear BK576; clear HB; have HO579 := n0_; have BK574 := n1_; have BK575 := n2_; have BK576 := n3_; have HB := n4_; have BK583 := n5_; have GW583 := n6_; have GE583 := n7_; have NB574_583 := n8_; have NB583_574 := n9_; have NB575_583 := n10_; have NB583_575 := n11_; have NB576_583 := n12_; have NB583_576 := n13_; clear n0_ n1_ n2_ n3_ n4_ n5_ n6_ n7_ n8_ n9_ n10_ n11_ n12_ n13_; clear hb hbox hg; have hnb38 := NB583_574.out; have hnc38 := NB574_583.out; have hnb39 := NB583_575.out; have hnc39 := NB575_583.out; have hnb40 := NB583_576.out; have hnc40 := NB576_583.out; have hcz41_0 : w37.cell? ⟨gb583, 0, none⟩ = some (.int .i64 0) := (blk_cell BK583.out 0).trans rfl; have hcz41_1 : w37.cell? ⟨gb583, 1, none⟩ = some (.int .i64 0) := (blk_cell BK583.out 1).trans rfl; have hfz41_0 := blk_frozen BK583.out 0; have hfz41_1 := blk_frozen BK583.out 1))
  (try simp only [Act.put, List.setIfInBounds_toArray, List.set_cons_zero, List.set_cons_succ])
  go_cut [30] (fun v30 wc => ∃ (kq : Nat) (x30_23 : Bool), v30 = .bool x30_23 ∧ Aside0 (levyref1_Split.j0 kq a2 x30_23 a0_0 a0_1 a1_0 a1_1 = some (r1, r2)) ∧ Aside0 (kq ≤ k) ∧ Aside0 (wc.heap[gb574]? = some (.cells #[.int .i64 a0_0, .int .i64 a0_1] 23 (0, 0))) ∧ Aside0 (wc.heap[gb575]? = some (.cells #[.int .i64 a1_0, .int .i64 a1_1] 23 (0, 0))) ∧ Aside0 (wc.heap[gb576]? = some (.cells #[.int .i64 0, .int .i64 0] 23 (0, 0))) ∧ Aside0 (wc.heap[gb583]? = some (.cells #[.int .i64 t580, .int .i64 t581] 23 (0, 0))) ∧ Aside0 (Below w.heap.size w wc))
  case first =>
   have H := HC24.out
   clear HC24
   by_cases c42 : a0_0 = 1
   ·rw [if_pos c42] at H
    have c42b0 : (a0_0 == 1) = true := beq_iff_eq.mpr c42
    have c42b1 : (a0_0 != 1) = false := bne_eq_false_iff_eq.mpr c42
    clear c42
    (first | rw [c42b0] | (simp only [i64_w, i32_w]; rw [c42b0]) | skip)
    by_cases c43 : a1_0 = 2
    ·rw [if_pos c43] at H
     have c43b0 : (a1_0 == 2) = true := beq_iff_eq.mpr c43
     have c43b1 : (a1_0 != 2) = false := bne_eq_false_iff_eq.mpr c43
     clear c43
     replace H := Option.bind_eq_some_iff.mp H
     obtain ⟨t584, A440, H⟩ := H
     replace H : (levyref1_Split.j0 k a2 (!t584) a0_0 a0_1 a1_0 a1_1) = some (r1, r2) := H
     have A44 := Aside0.mk A440
     clear A440
     have H' := Aside0.mk H
     clear H
     have hnb45 := NB574_575.out
     have hnc45 := NB575_574.out
     have hnb46 := NB574_576.out
     have hnc46 := NB576_574.out
     have hnb47 := NB574_583.out
     have hnc47 := NB583_574.out
     have hcz48_0 : w37.cell? ⟨gb574, 0, none⟩ = some (.int .i64 a0_0) := (blk_cell BK574.out 0).trans rfl
     have hcz48_1 : w37.cell? ⟨gb574, 1, none⟩ = some (.int .i64 a0_1) := (blk_cell BK574.out 1).trans rfl
     have hfz48_0 := blk_frozen BK574.out 0
     have hfz48_1 := blk_frozen BK574.out 1
     have hnb49 := NB575_576.out
     have hnc49 := NB576_575.out
     have hnb50 := NB575_583.out
     have hnc50 := NB583_575.out
     have hcz51_0 : w37.cell? ⟨gb575, 0, none⟩ = some (.int .i64 a1_0) := (blk_cell BK575.out 0).trans rfl
     have hcz51_1 : w37.cell? ⟨gb575, 1, none⟩ = some (.int .i64 a1_1) := (blk_cell BK575.out 1).trans rfl
     have hfz51_0 := blk_frozen BK575.out 0
     have hfz51_1 := blk_frozen BK575.out 1
     go_wp2_with (first | (go_at_call 70; (with_reducible refine (levyref1_isMode.calls a2 t584 _ A44.out).mono ?_); rintro e w' ⟨rfl, ⟨nd, rfl⟩⟩))
     go_meet
     case rel => exact ⟨_, (!t584), (by first | rfl | (simp; done) | (simp [*]; done)), H', ⟨by first | omega | exact Nat.le_refl _⟩, ⟨bkx⟩, ⟨bkx⟩, ⟨bkx⟩, ⟨by (with_reducible repeat (first | refine blk_drewN ?_ _ | refine blk_drew ?_ | refine blk_alloc ?_ _)); refine blk_put (cs := #[.int .i64 t580, .int .i64 0]) ?_ 1 _ rfl; (with_reducible repeat (first | refine blk_drewN ?_ _ | refine blk_drew ?_ | refine blk_alloc ?_ _)); refine blk_put (cs := #[.int .i64 0, .int .i64 0]) ?_ 0 _ rfl; (with_reducible repeat (first | refine blk_drewN ?_ _ | refine blk_drew ?_ | refine blk_alloc ?_ _)); exact BK583.out⟩, ⟨blx⟩⟩
    ·rw [if_neg c43] at H
     have c43b0 : (a1_0 == 2) = false := beq_eq_false_iff_ne.mpr c43
     have c43b1 : (a1_0 != 2) = true := bne_iff_ne.mpr c43
     have H' := Aside0.mk H
     clear H
     have hnb52 := NB574_575.out
     have hnc52 := NB575_574.out
     have hnb53 := NB574_576.out
     have hnc53 := NB576_574.out
     have hnb54 := NB574_583.out
     have hnc54 := NB583_574.out
     have hcz55_0 : w37.cell? ⟨gb574, 0, none⟩ = some (.int .i64 a0_0) := (blk_cell BK574.out 0).trans rfl
     have hcz55_1 : w37.cell? ⟨gb574, 1, none⟩ = some (.int .i64 a0_1) := (blk_cell BK574.out 1).trans rfl
     have hfz55_0 := blk_frozen BK574.out 0
     have hfz55_1 := blk_frozen BK574.out 1
     have hnb56 := NB575_576.out
     have hnc56 := NB576_575.out
     have hnb57 := NB575_583.out
     have hnc57 := NB583_575.out
     have hcz58_0 : w37.cell? ⟨gb575, 0, none⟩ = some (.int .i64 a1_0) := (blk_cell BK575.out 0).trans rfl
     have hcz58_1 : w37.cell? ⟨gb575, 1, none⟩ = some (.int .i64 a1_1) := (blk_cell BK575.out 1).trans rfl
     have hfz58_0 := blk_frozen BK575.out 0
     have hfz58_1 := blk_frozen BK575.out 1
     go_wp2
     go_meet
     case rel => exact ⟨_, (true), (by first | rfl | (simp; done) | (simp [*]; done)), H', ⟨by first | omega | exact Nat.le_refl _⟩, ⟨bkx⟩, ⟨bkx⟩, ⟨bkx⟩, ⟨by (with_reducible repeat (first | refine blk_drewN ?_ _ | refine blk_drew ?_ | refine blk_alloc ?_ _)); refine blk_put (cs := #[.int .i64 t580, .int .i64 0]) ?_ 1 _ rfl; (with_reducible repeat (first | refine blk_drewN ?_ _ | refine blk_drew ?_ | refine blk_alloc ?_ _)); refine blk_put (cs := #[.int .i64 0, .int .i64 0]) ?_ 0 _ rfl; (with_reducible repeat (first | refine blk_drewN ?_ _ | refine blk_drew ?_ | refine blk_alloc ?_ _)); exact BK583.out⟩, ⟨blx⟩⟩
   ·rw [if_neg c42] at H
    have c42b0 : (a0_0 == 1) = false := beq_eq_false_iff_ne.mpr c42
    have c42b1 : (a0_0 != 1) = true := bne_iff_ne.mpr c42
    (first | rw [c42b0] | (simp only [i64_w, i32_w]; rw [c42b0]) | skip)
    have H' := Aside0.mk H
    clear H
    have hnb59 := NB574_575.out
    have hnc59 := NB575_574.out
    have hnb60 := NB574_576.out
    have hnc60 := NB576_574.out
    have hnb61 := NB574_583.out
    have hnc61 := NB583_574.out
    have hcz62_0 : w37.cell? ⟨gb574, 0, none⟩ = some (.int .i64 a0_0) := (blk_cell BK574.out 0).trans rfl
    have hcz62_1 : w37.cell? ⟨gb574, 1, none⟩ = some (.int .i64 a0_1) := (blk_cell BK574.out 1).trans rfl
    have hfz62_0 := blk_frozen BK574.out 0
    have hfz62_1 := blk_frozen BK574.out 1
    go_wp2
    go_meet
    case rel => exact ⟨_, (true), (by first | rfl | (simp; done) | (simp [*]; done)), H', ⟨by first | omega | exact Nat.le_refl _⟩, ⟨bkx⟩, ⟨bkx⟩, ⟨bkx⟩, ⟨by (with_reducible repeat (first | refine blk_drewN ?_ _ | refine blk_drew ?_ | refine blk_alloc ?_ _)); refine blk_put (cs := #[.int .i64 t580, .int .i64 0]) ?_ 1 _ rfl; (with_reducible repeat (first | refine blk_drewN ?_ _ | refine blk_drew ?_ | refine blk_alloc ?_ _)); refine blk_put (cs := #[.int .i64 0, .int .i64 0]) ?_ 0 _ rfl; (with_reducible repeat (first | refine blk_drewN ?_ _ | refine blk_drew ?_ | refine blk_alloc ?_ _)); exact BK583.out⟩, ⟨blx⟩⟩
  case rest =>
   clear HC24
   try clear c1
   try clear c2
   try clear p2
   try clear c3
   try clear c4
   try clear c5
   try clear c6
   try clear c9
   try clear c10
   try clear c12
   try clear c19
   try clear c20
   try clear c21
   try clear c28
   try clear c29
   try clear c31
   try clear c38
   try clear c39
   try clear c40
   try clear c42
   try clear c42b0
   try clear c42b1
   try clear c43
   try clear c43b0
   try clear c43b1
   try clear c45
   try clear c46
   try clear c47
   try clear c48
   try clear c49
   try clear c50
   try clear c52
   try clear c53
   try clear c54
   try clear c56
   try clear c57
   try clear c59
   try clear c60
   try clear c61
   try clear hcz11_0
   try clear hcz11_1
   try clear hcz13_0
   try clear hcz13_1
   try clear hcz22_0
   try clear hcz22_1
   try clear hcz23_0
   try clear hcz23_1
   try clear hcz30_0
   try clear hcz30_1
   try clear hcz32_0
   try clear hcz32_1
   try clear hcz41_0
   try clear hcz41_1
   try clear hcz48_0
   try clear hcz48_1
   try clear hcz51_0
   try clear hcz51_1
   try clear hcz55_0
   try clear hcz55_1
   try clear hcz58_0
   try clear hcz58_1
   try clear hcz62_0
   try clear hcz62_1
   try clear hfz11_0
   try clear hfz11_1
   try clear hfz13_0
   try clear hfz13_1
   try clear hfz22_0
   try clear hfz22_1
   try clear hfz23_0
   try clear hfz23_1
   try clear hfz30_0
   try clear hfz30_1
   try clear hfz32_0
   try clear hfz32_1
   try clear hfz41_0
   try clear hfz41_1
   try clear hfz48_0
   try clear hfz48_1
   try clear hfz51_0
   try clear hfz51_1
   try clear hfz55_0
   try clear hfz55_1
   try clear hfz58_0
   try clear hfz58_1
   try clear hfz62_0
   try clear hfz62_1
   obtain ⟨kq, x30_23, rfl, HA, HJ23, BK574, BK575, BK576, BK583, HB⟩ := hcut
   cases kq with
   | zero => exact absurd HA.out (by simp [levyref1_Split.j0])
   | succ kj23 =>
    have H := HA.out
    clear HA
    simp only [levyref1_Split.j0] at H
    by_cases c63 : x30_23 = true
    ·subst c63
     have H1 : ((levyref1_bad.f 5).bind fun bt585 => (some (bt585.1, bt585.2))) = some (r1, r2) := by rw [if_pos rfl] at H; exact H
     clear H
     have H := H1
     clear H1
     replace H := Option.bind_eq_some_iff.mp H
     obtain ⟨⟨t585, t586⟩, A640, H⟩ := H
     replace H : (some (t585, t586)) = some (r1, r2) := H
     have A64 := Aside0.mk A640
     clear A640
     simp only [Option.some.injEq, Prod.mk.injEq] at H
     obtain ⟨rfl, rfl⟩ := H
     go_wp2_with (first | ((with_reducible refine gate_callee (f := 57) rfl ?_); refine goesL_ (some 31) rfl rfl Tryd.func57 (by kernel_rfl) rfl #[.int .i64 5] rfl agx ?_; (with_reducible refine (levyref1_bad.calls 5 t585 t586 _ A64.out).mono ?_); rintro e w65 ⟨rfl, hb⟩; refine ⟨_, rfl, ?_⟩; have n0_ := Aside0.mk (blk_below (g := gb574) (o := .cells #[.int .i64 a0_0, .int .i64 a0_1] 23 (0, 0)) bkx hb); have n1_ := Aside0.mk (blk_below (g := gb575) (o := .cells #[.int .i64 a1_0, .int .i64 a1_1] 23 (0, 0)) bkx hb); have n2_ := Aside0.mk (blk_below (g := gb576) (o := .cells #[.int .i64 0, .int .i64 0] 23 (0, 0)) bkx hb); have n3_ := Aside0.mk (blk_below (g := gb583) (o := .cells #[.int .i64 t580, .int .i64 t581] 23 (0, 0)) bkx hb); have n4_ := Aside0.mk (below_step blx hb); clear BK574; clear BK575; clear BK576; clear BK583; clear HB; have BK574 := n0_; have BK575 := n1_; have BK576 := n2_; have BK583 := n3_; have HB := n4_; clear n0_ n1_ n2_ n3_ n4_; (try clear hb); (try clear hb2); (try clear hk); (try clear hi); have hnb66 := NB576_574.out; have hnc66 := NB574_576.out; have hnb67 := NB576_575.out; have hnc67 := NB575_576.out; have hnb68 := NB576_583.out; have hnc68 := NB583_576.out; have hcz69_0 : w65.cell? ⟨gb576, 0, none⟩ = some (.int .i64 0) := (blk_cell BK576.out 0).trans rfl; have hcz69_1 : w65.cell? ⟨gb576, 1, none⟩ = some (.int .i64 0) := (blk_cell BK576.out 1).trans rfl; have hfz69_0 := blk_frozen BK576.out 0; have hfz69_1 := blk_frozen BK576.out 1))
     refine bodyPost_ret (results_cell_row rfl _ _ gb576 23 #[.int .i64 t585, .int .i64 t586] (0, 0) _ rfl (by (with_reducible repeat (first | refine blk_drewN ?_ _ | refine blk_drew ?_ | refine blk_alloc ?_ _)); refine blk_put (cs := #[.int .i64 t585, .int .i64 0]) ?_ 1 _ rfl; (with_reducible repeat (first | refine blk_drewN ?_ _ | refine blk_drew ?_ | refine blk_alloc ?_ _)); refine blk_put (cs := #[.int .i64 0, .int .i64 0]) ?_ 0 _ rfl; (with_reducible repeat (first | refine blk_drewN ?_ _ | refine blk_drew ?_ | refine blk_alloc ?_ _)); exact BK576.out) Tryd.underlying23 rfl (by kernel_rfl)) rfl ?_
     exact ⟨by first | rfl | (simp [errW_none, errW_some] <;> rfl) | (simp [*, errW_none, errW_some] <;> rfl), blx⟩
    ·replace c63 := Bool.eq_false_iff.mpr c63
     subst c63
     have H1 : (if a1_1 = 0 then ((levyref1_bad.f 2).bind fun bt587 => (some (bt587.1, bt587.2))) else ((levyref1_size.f a0_1).bind fun t589 => ((levyref1_digits.f kj23 t589).bind fun t590 => ((levyref1_size.f a1_1).bind fun t593 => ((levyref1_rounded.f kj23 t590 ((decide (a0_1 < 0)) != (decide (a1_1 < 0))) t593 a2).bind fun t594 => ((levyref1_bounded.f 1 t594).bind fun bt595 => (some (bt595.1, bt595.2)))))))) = some (r1, r2) := by rw [if_neg (show ¬ (false = true) by decide)] at H; exact H
     clear H
     have H := H1
     clear H1
     by_cases c70 : a1_1 = 0
     ·rw [if_pos c70] at H
      have c70b0 : (a1_1 == 0) = true := beq_iff_eq.mpr c70
      have c70b1 : (a1_1 != 0) = false := bne_eq_false_iff_eq.mpr c70
      clear c70
      replace H := Option.bind_eq_some_iff.mp H
      obtain ⟨⟨t587, t588⟩, A710, H⟩ := H
      replace H : (some (t587, t588)) = some (r1, r2) := H
      have A71 := Aside0.mk A710
      clear A710
      simp only [Option.some.injEq, Prod.mk.injEq] at H
      obtain ⟨rfl, rfl⟩ := H
      have hnb72 := NB575_574.out
      have hnc72 := NB574_575.out
      have hnb73 := NB575_576.out
      have hnc73 := NB576_575.out
      have hnb74 := NB575_583.out
      have hnc74 := NB583_575.out
      have hcz75_0 : wc.cell? ⟨gb575, 0, none⟩ = some (.int .i64 a1_0) := (blk_cell BK575.out 0).trans rfl
      have hcz75_1 : wc.cell? ⟨gb575, 1, none⟩ = some (.int .i64 a1_1) := (blk_cell BK575.out 1).trans rfl
      have hfz75_0 := blk_frozen BK575.out 0
      have hfz75_1 := blk_frozen BK575.out 1
      go_wp2_with (first | ((with_reducible refine gate_callee (f := 57) rfl ?_); refine goesL_ (some 35) rfl rfl Tryd.func57 (by kernel_rfl) rfl #[.int .i64 2] rfl agx ?_; (with_reducible refine (levyref1_bad.calls 2 t587 t588 _ A71.out).mono ?_); rintro e w76 ⟨rfl, hb⟩; refine ⟨_, rfl, ?_⟩; have n0_ := Aside0.mk (blk_below (g := gb574) (o := .cells #[.int .i64 a0_0, .int .i64 a0_1] 23 (0, 0)) bkx hb); have n1_ := Aside0.mk (blk_below (g := gb575) (o := .cells #[.int .i64 a1_0, .int .i64 a1_1] 23 (0, 0)) bkx hb); have n2_ := Aside0.mk (blk_below (g := gb576) (o := .cells #[.int .i64 0, .int .i64 0] 23 (0, 0)) bkx hb); have n3_ := Aside0.mk (blk_below (g := gb583) (o := .cells #[.int .i64 t580, .int .i64 t581] 23 (0, 0)) bkx hb); have n4_ := Aside0.mk (below_step blx hb); clear BK574; clear BK575; clear BK576; clear BK583; clear HB; have BK574 := n0_; have BK575 := n1_; have BK576 := n2_; have BK583 := n3_; have HB := n4_; clear n0_ n1_ n2_ n3_ n4_; (try clear hb); (try clear hb2); (try clear hk); (try clear hi); have hnb77 := NB576_574.out; have hnc77 := NB574_576.out; have hnb78 := NB576_583.out; have hnc78 := NB583_576.out; have hcz79_0 : w76.cell? ⟨gb576, 0, none⟩ = some (.int .i64 0) := (blk_cell BK576.out 0).trans rfl; have hcz79_1 : w76.cell? ⟨gb576, 1, none⟩ = some (.int .i64 0) := (blk_cell BK576.out 1).trans rfl; have hfz79_0 := blk_frozen BK576.out 0; have hfz79_1 := blk_frozen BK576.out 1))
      refine bodyPost_ret (results_cell_row rfl _ _ gb576 23 #[.int .i64 t587, .int .i64 t588] (0, 0) _ rfl (by (with_reducible repeat (first | refine blk_drewN ?_ _ | refine blk_drew ?_ | refine blk_alloc ?_ _)); refine blk_put (cs := #[.int .i64 t587, .int .i64 0]) ?_ 1 _ rfl; (with_reducible repeat (first | refine blk_drewN ?_ _ | refine blk_drew ?_ | refine blk_alloc ?_ _)); refine blk_put (cs := #[.int .i64 0, .int .i64 0]) ?_ 0 _ rfl; (with_reducible repeat (first | refine blk_drewN ?_ _ | refine blk_drew ?_ | refine blk_alloc ?_ _)); exact BK576.out) Tryd.underlying23 rfl (by kernel_rfl)) rfl ?_
      exact ⟨by first | rfl | (simp [errW_none, errW_some] <;> rfl) | (simp [*, errW_none, errW_some] <;> rfl), blx⟩
     ·rw [if_neg c70] at H
      have c70b0 : (a1_1 == 0) = false := beq_eq_false_iff_ne.mpr c70
      have c70b1 : (a1_1 != 0) = true := bne_iff_ne.mpr c70
      replace H := Option.bind_eq_some_iff.mp H
      obtain ⟨t589, A800, H⟩ := H
      replace H : ((levyref1_digits.f kj23 t589).bind fun t590 => ((levyref1_size.f a1_1).bind fun t593 => ((levyref1_rounded.f kj23 t590 ((decide (a0_1 < 0)) != (decide (a1_1 < 0))) t593 a2).bind fun t594 => ((levyref1_bounded.f 1 t594).bind fun bt595 => (some (bt595.1, bt595.2)))))) = some (r1, r2) := H
      have A80 := Aside0.mk A800
      clear A800
      replace H := Option.bind_eq_some_iff.mp H
      obtain ⟨t590, A810, H⟩ := H
      replace H : ((levyref1_size.f a1_1).bind fun t593 => ((levyref1_rounded.f kj23 t590 ((decide (a0_1 < 0)) != (decide (a1_1 < 0))) t593 a2).bind fun t594 => ((levyref1_bounded.f 1 t594).bind fun bt595 => (some (bt595.1, bt595.2))))) = some (r1, r2) := H
      have A81 := Aside0.mk A810
      clear A810
      replace H := Option.bind_eq_some_iff.mp H
      obtain ⟨t593, A820, H⟩ := H
      replace H : ((levyref1_rounded.f kj23 t590 ((decide (a0_1 < 0)) != (decide (a1_1 < 0))) t593 a2).bind fun t594 => ((levyref1_bounded.f 1 t594).bind fun bt595 => (some (bt595.1, bt595.2)))) = some (r1, r2) := H
      have A82 := Aside0.mk A820
      clear A820
      replace H := Option.bind_eq_some_iff.mp H
      obtain ⟨t594, A830, H⟩ := H
      replace H : ((levyref1_bounded.f 1 t594).bind fun bt595 => (some (bt595.1, bt595.2))) = some (r1, r2) := H
      have A83 := Aside0.mk A830
      clear A830
      replace H := Option.bind_eq_some_iff.mp H
      obtain ⟨⟨t595, t596⟩, A840, H⟩ := H
      replace H : (some (t595, t596)) = some (r1, r2) := H
      have A84 := Aside0.mk A840
      clear A840
      simp only [Option.some.injEq, Prod.mk.injEq] at H
      obtain ⟨rfl, rfl⟩ := H
      have hnb85 := NB575_574.out
      have hnc85 := NB574_575.out
      have hnb86 := NB575_576.out
      have hnc86 := NB576_575.out
      have hnb87 := NB575_583.out
      have hnc87 := NB583_575.out
      have hcz88_0 : wc.cell? ⟨gb575, 0, none⟩ = some (.int .i64 a1_0) := (blk_cell BK575.out 0).trans rfl
      have hcz88_1 : wc.cell? ⟨gb575, 1, none⟩ = some (.int .i64 a1_1) := (blk_cell BK575.out 1).trans rfl
      have hfz88_0 := blk_frozen BK575.out 0
      have hfz88_1 := blk_frozen BK575.out 1
      try go_wp2
      have n0_ := Aside0.mk (blk_drew BK574.out)
      have n1_ := Aside0.mk (blk_drew BK575.out)
      have n2_ := Aside0.mk (blk_drew BK576.out)
      have n3_ := Aside0.mk (blk_drew BK583.out)
      have n4_ := Aside0.mk (below_drew1 HB.out)
      clear BK574
      clear BK575
      clear BK576
      clear BK583
      clear HB
      have BK574 := n0_
      have BK575 := n1_
      have BK576 := n2_
      have BK583 := n3_
      have HB := n4_
      clear n0_ n1_ n2_ n3_ n4_
      refine start_ (n := 18) (S := fun w' => w'.cell? ⟨gb574, 0, none⟩ = some (.int .i64 a0_0) ∧ w'.cell? ⟨gb574, 1, none⟩ = some (.int .i64 a0_1) ∧ w'.cell? ⟨gb575, 0, none⟩ = some (.int .i64 a1_0) ∧ w'.cell? ⟨gb575, 1, none⟩ = some (.int .i64 a1_1)) (ds := []) #[false, false, false, false, false, false, false, false, false, false, false, false, false, false, false, false, false, false] (by kernel_rfl) rfl rfl ⟨(blk_cell BK574.out 0).trans rfl, (blk_cell BK574.out 1).trans rfl, (blk_cell BK575.out 0).trans rfl, (blk_cell BK575.out 1).trans rfl⟩ (fun hHeld => ?_); refine with_tabW levyref1_Split.tab8 levyref1_Split.bits8 (fun HT_ HW_ => ?_)
      generalize wc.drew = w89 at BK574 BK575 BK576 BK583 HB hHeld ⊢
      refine pure_ (i := 0) (N := some 36) (v := ?_) (a' := ?_) #[true, false, false, false, false, false, false, false, false, false, false, false, false, false, false, false, false, false] rfl rfl (any_of HT_.out (by kernel_rfl)) (fun _ _ _ h => h) (Or.inl ⟨by rfl, ?_⟩) ?_ ?_
      rotate_left
      ·intro w'
       go_simp
       with_reducible rfl
      rotate_left
      ·simp only [Act.put, List.setIfInBounds_toArray, List.set_cons_zero, List.set_cons_succ, i64_w, i32_w]
       rfl
      refine pure_ (i := 4) (N := some 40) (v := ?_) (a' := ?_) #[true, false, false, false, true, false, false, false, false, false, false, false, false, false, false, false, false, false] rfl rfl (any_of HT_.out (by kernel_rfl)) (fun _ _ _ h => h) (Or.inl ⟨by rfl, ?_⟩) ?_ ?_
      rotate_left
      ·intro w'
       go_simp
       with_reducible rfl
      rotate_left
      ·simp only [Act.put, List.setIfInBounds_toArray, List.set_cons_zero, List.set_cons_succ, i64_w, i32_w]
       rfl
      refine pure_ (i := 7) (N := some 43) (v := ?_) (a' := ?_) #[true, false, false, false, true, false, false, true, false, false, false, false, false, false, false, false, false, false] rfl rfl (any_of HT_.out (by kernel_rfl)) (fun _ _ _ h => h) (Or.inl ⟨by rfl, ?_⟩) ?_ ?_
      rotate_left
      ·intro w'
       go_simp
       with_reducible rfl
      rotate_left
      ·simp only [Act.put, List.setIfInBounds_toArray, List.set_cons_zero, List.set_cons_succ, i64_w, i32_w]
       rfl
      refine pure_ (i := 11) (N := some 47) (v := ?_) (a' := ?_) #[true, false, false, false, true, false, false, true, false, false, false, true, false, false, false, false, false, false] rfl rfl (any_of HT_.out (by kernel_rfl)) (fun _ _ _ h => h) (Or.inl ⟨by rfl, ?_⟩) ?_ ?_
      rotate_left
      ·intro w'
       go_simp
       with_reducible rfl
      rotate_left
      ·simp only [Act.put, List.setIfInBounds_toArray, List.set_cons_zero, List.set_cons_succ, i64_w, i32_w]
       rfl
      refine pure_ (i := 14) (N := some 50) (v := ?_) (a' := ?_) #[true, false, false, false, true, false, false, true, false, false, false, true, false, false, true, false, false, false] rfl rfl (any_of HT_.out (by kernel_rfl)) (fun _ _ _ h => h) (Or.inl ⟨by rfl, ?_⟩) ?_ ?_
      rotate_left
      ·intro w'
       go_simp
       with_reducible rfl
      rotate_left
      ·simp only [Act.put, List.setIfInBounds_toArray, List.set_cons_zero, List.set_cons_succ, i64_w, i32_w]
       rfl
      refine take_ (i := 1) (N := some 37) (v := ?_) (a' := ?_) #[true, true, false, false, true, false, false, true, false, false, false, true, false, false, true, false, false, false] rfl rfl (take_ofW HT_.out HW_.out (by kernel_rfl)) (fun _ _ _ h => h) (Or.inl ⟨by rfl, ?_⟩) hHeld ?_ ?_
      rotate_left
      ·rintro w' ⟨s0, s1, s2, s3⟩
       go_simp
       with_reducible rfl
      rotate_left
      ·simp only [Act.put, List.setIfInBounds_toArray, List.set_cons_zero, List.set_cons_succ, i64_w, i32_w]
       rfl
      refine take_ (i := 5) (N := some 41) (v := ?_) (a' := ?_) #[true, true, false, false, true, true, false, true, false, false, false, true, false, false, true, false, false, false] rfl rfl (take_ofW HT_.out HW_.out (by kernel_rfl)) (fun _ _ _ h => h) (Or.inl ⟨by rfl, ?_⟩) hHeld ?_ ?_
      rotate_left
      ·rintro w' ⟨s0, s1, s2, s3⟩
       go_simp
       with_reducible rfl
      rotate_left
      ·simp only [Act.put, List.setIfInBounds_toArray, List.set_cons_zero, List.set_cons_succ, i64_w, i32_w]
       rfl
      refine pure_ (i := 6) (N := some 42) (v := ?_) (a' := ?_) #[true, true, false, false, true, true, true, true, false, false, false, true, false, false, true, false, false, false] rfl rfl (any_of HT_.out (by kernel_rfl)) (fun _ _ _ h => h) (Or.inl ⟨by rfl, ?_⟩) ?_ ?_
      rotate_left
      ·intro w'
       go_simp
       with_reducible rfl
      rotate_left
      ·simp only [Act.put, List.setIfInBounds_toArray, List.set_cons_zero, List.set_cons_succ, i64_w, i32_w]
       rfl
      refine take_ (i := 8) (N := some 44) (v := ?_) (a' := ?_) #[true, true, false, false, true, true, true, true, true, false, false, true, false, false, true, false, false, false] rfl rfl (take_ofW HT_.out HW_.out (by kernel_rfl)) (fun _ _ _ h => h) (Or.inl ⟨by rfl, ?_⟩) hHeld ?_ ?_
      rotate_left
      ·rintro w' ⟨s0, s1, s2, s3⟩
       go_simp
       with_reducible rfl
      rotate_left
      ·simp only [Act.put, List.setIfInBounds_toArray, List.set_cons_zero, List.set_cons_succ, i64_w, i32_w]
       rfl
      refine pure_ (i := 9) (N := some 45) (v := ?_) (a' := ?_) #[true, true, false, false, true, true, true, true, true, true, false, true, false, false, true, false, false, false] rfl rfl (any_of HT_.out (by kernel_rfl)) (fun _ _ _ h => h) (Or.inl ⟨by rfl, ?_⟩) ?_ ?_
      rotate_left
      ·intro w'
       go_simp
       with_reducible rfl
      rotate_left
      ·simp only [Act.put, List.setIfInBounds_toArray, List.set_cons_zero, List.set_cons_succ, i64_w, i32_w]
       rfl
      refine pure_ (i := 10) (N := some 46) (v := ?_) (a' := ?_) #[true, true, false, false, true, true, true, true, true, true, true, true, false, false, true, false, false, false] rfl rfl (any_of HT_.out (by kernel_rfl)) (fun _ _ _ h => h) (Or.inl ⟨by rfl, ?_⟩) ?_ ?_
      rotate_left
      ·intro w'
       go_simp
       with_reducible rfl
      rotate_left
      ·simp only [Act.put, List.setIfInBounds_toArray, List.set_cons_zero, List.set_cons_succ, i64_w, i32_w]
       rfl
      refine take_ (i := 12) (N := some 48) (v := ?_) (a' := ?_) #[true, true, false, false, true, true, true, true, true, true, true, true, true, false, true, false, false, false] rfl rfl (take_ofW HT_.out HW_.out (by kernel_rfl)) (fun _ _ _ h => h) (Or.inl ⟨by rfl, ?_⟩) hHeld ?_ ?_
      rotate_left
      ·rintro w' ⟨s0, s1, s2, s3⟩
       go_simp
       with_reducible rfl
      rotate_left
      ·simp only [Act.put, List.setIfInBounds_toArray, List.set_cons_zero, List.set_cons_succ, i64_w, i32_w]
       rfl
      refine one_ (i := 2) (N := some 38) #[true, true, true, false, true, true, true, true, true, true, true, true, true, false, true, false, false, false] rfl rfl (one_of HT_.out (by kernel_rfl)) (by decide) (fun K hK => ?_)
      refine goes_ Tryd.func73 (by kernel_rfl) rfl #[.int .i64 a0_1] (by rfl) rfl rfl agx ?_
      with_reducible refine (levyref1_size.calls a0_1 t589 _ A80.out).mono ?_
      rintro e w90 ⟨rfl, hb⟩
      refine ⟨_, rfl, ?_⟩
      have n0_ := Aside0.mk (blk_below (g := gb574) (o := .cells #[.int .i64 a0_0, .int .i64 a0_1] 23 (0, 0)) bkx hb)
      have n1_ := Aside0.mk (blk_below (g := gb575) (o := .cells #[.int .i64 a1_0, .int .i64 a1_1] 23 (0, 0)) bkx hb)
      have n2_ := Aside0.mk (blk_below (g := gb576) (o := .cells #[.int .i64 0, .int .i64 0] 23 (0, 0)) bkx hb)
      have n3_ := Aside0.mk (blk_below (g := gb583) (o := .cells #[.int .i64 t580, .int .i64 t581] 23 (0, 0)) bkx hb)
      have n4_ := Aside0.mk (below_step blx hb)
      clear BK574
      clear BK575
      clear BK576
      clear BK583
      clear HB
      have BK574 := n0_
      have BK575 := n1_
      have BK576 := n2_
      have BK583 := n3_
      have HB := n4_
      clear n0_ n1_ n2_ n3_ n4_
      (try clear hb)
      (try clear hb2)
      (try clear hk)
      (try clear hi)
      refine hK.out _ _ ⟨(blk_cell BK574.out 0).trans rfl, (blk_cell BK574.out 1).trans rfl, (blk_cell BK575.out 0).trans rfl, (blk_cell BK575.out 1).trans rfl⟩ (fun hHeld => ?_)
      clear hK K
      refine norm_ (a' := ?_) ?_ ?_
      rotate_left
      ·show Act.put _ (some 38) _ = _
       simp only [Act.put, List.setIfInBounds_toArray, List.set_cons_zero, List.set_cons_succ, i64_w, i32_w]
       rfl
      refine one_ (i := 3) (N := some 39) #[true, true, true, true, true, true, true, true, true, true, true, true, true, false, true, false, false, false] rfl rfl (one_of HT_.out (by kernel_rfl)) (by decide) (fun K hK => ?_)
      refine goes_ Tryd.func72 (by kernel_rfl) rfl #[.int .i64 t589] (by rfl) rfl rfl agx ?_
      with_reducible refine (levyref1_digits.calls kj23 t589 t590 _ A81.out).mono ?_
      rintro e w91 ⟨v591, rfl, ho0, hb⟩
      refine ⟨_, rfl, ?_⟩
      have n0_ := Aside0.mk (Kd.R_lower ho0 (below_size blx))
      have n1_ := Aside0.mk (blk_below (g := gb574) (o := .cells #[.int .i64 a0_0, .int .i64 a0_1] 23 (0, 0)) bkx hb)
      have n2_ := Aside0.mk (blk_below (g := gb575) (o := .cells #[.int .i64 a1_0, .int .i64 a1_1] 23 (0, 0)) bkx hb)
      have n3_ := Aside0.mk (blk_below (g := gb576) (o := .cells #[.int .i64 0, .int .i64 0] 23 (0, 0)) bkx hb)
      have n4_ := Aside0.mk (blk_below (g := gb583) (o := .cells #[.int .i64 t580, .int .i64 t581] 23 (0, 0)) bkx hb)
      have n5_ := Aside0.mk (below_step blx hb)
      clear BK574
      clear BK575
      clear BK576
      clear BK583
      clear HB
      have HO592 := n0_
      have BK574 := n1_
      have BK575 := n2_
      have BK576 := n3_
      have BK583 := n4_
      have HB := n5_
      clear n0_ n1_ n2_ n3_ n4_ n5_
      (try clear hb)
      (try clear hb2)
      (try clear hk)
      (try clear hi)
      (try clear ho0)
      refine hK.out _ _ ⟨(blk_cell BK574.out 0).trans rfl, (blk_cell BK574.out 1).trans rfl, (blk_cell BK575.out 0).trans rfl, (blk_cell BK575.out 1).trans rfl⟩ (fun hHeld => ?_)
      clear hK K
      refine norm_ (a' := ?_) ?_ ?_
      rotate_left
      ·show Act.put _ (some 39) _ = _
       simp only [Act.put, List.setIfInBounds_toArray, List.set_cons_zero, List.set_cons_succ, i64_w, i32_w]
       rfl
      refine one_ (i := 13) (N := some 49) #[true, true, true, true, true, true, true, true, true, true, true, true, true, true, true, false, false, false] rfl rfl (one_of HT_.out (by kernel_rfl)) (by decide) (fun K hK => ?_)
      refine goes_ Tryd.func73 (by kernel_rfl) rfl #[.int .i64 a1_1] (by rfl) rfl rfl agx ?_
      with_reducible refine (levyref1_size.calls a1_1 t593 _ A82.out).mono ?_
      rintro e w92 ⟨rfl, hb⟩
      refine ⟨_, rfl, ?_⟩
      have n0_ := Aside0.mk (Kd.R_below (by (with_reducible repeat (first | apply Kd.R_alloc | apply Kd.R_drewN | apply Kd.R_drew)); exact HO592.out) hb)
      have n1_ := Aside0.mk (blk_below (g := gb574) (o := .cells #[.int .i64 a0_0, .int .i64 a0_1] 23 (0, 0)) bkx hb)
      have n2_ := Aside0.mk (blk_below (g := gb575) (o := .cells #[.int .i64 a1_0, .int .i64 a1_1] 23 (0, 0)) bkx hb)
      have n3_ := Aside0.mk (blk_below (g := gb576) (o := .cells #[.int .i64 0, .int .i64 0] 23 (0, 0)) bkx hb)
      have n4_ := Aside0.mk (blk_below (g := gb583) (o := .cells #[.int .i64 t580, .int .i64 t581] 23 (0, 0)) bkx hb)
      have n5_ := Aside0.mk (below_step blx hb)
      clear HO592
      clear BK574
      clear BK575
      clear BK576
      clear BK583
      clear HB
      have HO592 := n0_
      have BK574 := n1_
      have BK575 := n2_
      have BK576 := n3_
      have BK583 := n4_
      have HB := n5_
      clear n0_ n1_ n2_ n3_ n4_ n5_
      (try clear hb)
      (try clear hb2)
      (try clear hk)
      (try clear hi)
      obtain ⟨Ao93, co93, eo93⟩ := Kd.R_slice HO592.out
      (first | subst eo93 | (injection eo93 with f1_ f2_ f3_; have f4_ := f1_.symm; have f5_ := f3_.symm; clear f1_ f2_ f3_; subst f4_; subst f5_))
      refine hK.out _ _ ⟨(blk_cell BK574.out 0).trans rfl, (blk_cell BK574.out 1).trans rfl, (blk_cell BK575.out 0).trans rfl, (blk_cell BK575.out 1).trans rfl⟩ (fun hHeld => ?_)
      clear hK K
      refine norm_ (a' := ?_) ?_ ?_
      rotate_left
      ·show Act.put _ (some 49) _ = _
       simp only [Act.put, List.setIfInBounds_toArray, List.set_cons_zero, List.set_cons_succ, i64_w, i32_w]
       rfl
      refine one_ (i := 15) (N := some 51) #[true, true, true, true, true, true, true, true, true, true, true, true, true, true, true, true, false, false] rfl rfl (one_of HT_.out (by kernel_rfl)) (by decide) (fun K hK => ?_)
      refine goes_ Tryd.func71 (by kernel_rfl) rfl #[.slice Ao93 t590.length co93, .bool ((decide (a0_1 < 0)) != (decide (a1_1 < 0))), .int .i64 t593, .int .i64 a2] (by rfl) rfl rfl agx ?_
      with_reducible refine (levyref1_rounded.calls kj23 _ _ t590 ((decide (a0_1 < 0)) != (decide (a1_1 < 0))) t593 a2 t594 _ ?side1 ?side2 A83.out).mono ?_
      (case side1 => repeat (first | exact (Kd.R_reads' HO592.out).2.2 | (with_reducible refine Kd.C_alloc ?_ _) | (with_reducible refine Kd.C_drewN ?_ _) | (with_reducible refine Kd.C_drew ?_)))
      (case side2 => exact (Kd.R_reads' HO592.out).2.1)
      rintro e w94 ⟨rfl, hb⟩
      refine ⟨_, rfl, ?_⟩
      have n0_ := Aside0.mk (Kd.R_below (by (with_reducible repeat (first | apply Kd.R_alloc | apply Kd.R_drewN | apply Kd.R_drew)); exact HO592.out) hb)
      have n1_ := Aside0.mk (blk_below (g := gb574) (o := .cells #[.int .i64 a0_0, .int .i64 a0_1] 23 (0, 0)) bkx hb)
      have n2_ := Aside0.mk (blk_below (g := gb575) (o := .cells #[.int .i64 a1_0, .int .i64 a1_1] 23 (0, 0)) bkx hb)
      have n3_ := Aside0.mk (blk_below (g := gb576) (o := .cells #[.int .i64 0, .int .i64 0] 23 (0, 0)) bkx hb)
      have n4_ := Aside0.mk (blk_below (g := gb583) (o := .cells #[.int .i64 t580, .int .i64 t581] 23 (0, 0)) bkx hb)
      have n5_ := Aside0.mk (below_step blx hb)
      clear HO592
      clear BK574
      clear BK575
      clear BK576
      clear BK583
      clear HB
      have HO592 := n0_
      have BK574 := n1_
      have BK575 := n2_
      have BK576 := n3_
      have BK583 := n4_
      have HB := n5_
      clear n0_ n1_ n2_ n3_ n4_ n5_
      (try clear hb)
      (try clear hb2)
      (try clear hk)
      (try clear hi)
      refine hK.out _ _ ⟨(blk_cell BK574.out 0).trans rfl, (blk_cell BK574.out 1).trans rfl, (blk_cell BK575.out 0).trans rfl, (blk_cell BK575.out 1).trans rfl⟩ (fun hHeld => ?_)
      clear hK K
      refine norm_ (a' := ?_) ?_ ?_
      rotate_left
      ·show Act.put _ (some 51) _ = _
       simp only [Act.put, List.setIfInBounds_toArray, List.set_cons_zero, List.set_cons_succ, i64_w, i32_w]
       rfl
      refine one_ (i := 16) (N := some 52) #[true, true, true, true, true, true, true, true, true, true, true, true, true, true, true, true, true, false] rfl rfl (one_of HT_.out (by kernel_rfl)) (by decide) (fun K hK => ?_)
      refine goes_ Tryd.func58 (by kernel_rfl) rfl #[.int .i64 1, .int .i64 t594] (by rfl) rfl rfl agx ?_
      with_reducible refine (levyref1_bounded.calls 1 t594 t595 t596 _ A84.out).mono ?_
      rintro e w95 ⟨rfl, hb⟩
      refine ⟨_, rfl, ?_⟩
      have n0_ := Aside0.mk (Kd.R_below (by (with_reducible repeat (first | apply Kd.R_alloc | apply Kd.R_drewN | apply Kd.R_drew)); exact HO592.out) hb)
      have n1_ := Aside0.mk (blk_below (g := gb574) (o := .cells #[.int .i64 a0_0, .int .i64 a0_1] 23 (0, 0)) bkx hb)
      have n2_ := Aside0.mk (blk_below (g := gb575) (o := .cells #[.int .i64 a1_0, .int .i64 a1_1] 23 (0, 0)) bkx hb)
      have n3_ := Aside0.mk (blk_below (g := gb576) (o := .cells #[.int .i64 0, .int .i64 0] 23 (0, 0)) bkx hb)
      have n4_ := Aside0.mk (blk_below (g := gb583) (o := .cells #[.int .i64 t580, .int .i64 t581] 23 (0, 0)) bkx hb)
      have n5_ := Aside0.mk (below_step blx hb)
      clear HO592
      clear BK574
      clear BK575
      clear BK576
      clear BK583
      clear HB
      have HO592 := n0_
      have BK574 := n1_
      have BK575 := n2_
      have BK576 := n3_
      have BK583 := n4_
      have HB := n5_
      clear n0_ n1_ n2_ n3_ n4_ n5_
      (try clear hb)
      (try clear hb2)
      (try clear hk)
      (try clear hi)
      refine hK.out _ _ ⟨(blk_cell BK574.out 0).trans rfl, (blk_cell BK574.out 1).trans rfl, (blk_cell BK575.out 0).trans rfl, (blk_cell BK575.out 1).trans rfl⟩ (fun hHeld => ?_)
      clear hK K
      refine norm_ (a' := ?_) ?_ ?_
      rotate_left
      ·show Act.put _ (some 52) _ = _
       simp only [Act.put, List.setIfInBounds_toArray, List.set_cons_zero, List.set_cons_succ, i64_w, i32_w]
       rfl
      refine one_ (i := 17) (N := none) #[true, true, true, true, true, true, true, true, true, true, true, true, true, true, true, true, true, true] rfl rfl (one_of HT_.out (by kernel_rfl)) (by decide) (fun K hK => ?_)
      have hs96 : w95.cell? ⟨gb576, 0, none⟩ = some (.int .i64 0) := (blk_cell BK576.out 0).trans rfl
      have hfs96 := blk_frozen BK576.out 0
      have hns96_0 := NB574_576.out
      have hns96_1 := NB575_576.out
      have hns96_3 := NB583_576.out
      have hms96_0 := NB576_574.out
      have hms96_1 := NB576_575.out
      have hms96_3 := NB576_583.out
      have hs97 : w95.cell? ⟨gb576, 1, none⟩ = some (.int .i64 0) := (blk_cell BK576.out 1).trans rfl
      have hfs97 := blk_frozen BK576.out 1
      have hns97_0 := NB574_576.out
      have hns97_1 := NB575_576.out
      have hns97_3 := NB583_576.out
      have hms97_0 := NB576_574.out
      have hms97_1 := NB576_575.out
      have hms97_3 := NB576_583.out
      refine skip_ (w1 := ?_) (by rfl) rfl ?_ ?_
      rotate_left
      ·go_simp
       rfl
      refine hK.out _ _ ⟨((cell_far (p := ⟨gb576, _, none⟩) NB574_576.out _).trans (((cell_far (p := ⟨gb576, _, none⟩) NB574_576.out _).trans (hHeld.1)))), ((cell_far (p := ⟨gb576, _, none⟩) NB574_576.out _).trans (((cell_far (p := ⟨gb576, _, none⟩) NB574_576.out _).trans (hHeld.2.1)))), ((cell_far (p := ⟨gb576, _, none⟩) NB575_576.out _).trans (((cell_far (p := ⟨gb576, _, none⟩) NB575_576.out _).trans (hHeld.2.2.1)))), ((cell_far (p := ⟨gb576, _, none⟩) NB575_576.out _).trans (((cell_far (p := ⟨gb576, _, none⟩) NB575_576.out _).trans (hHeld.2.2.2))))⟩ (fun hHeld => ?_)
      clear hK K
      refine done_ (done_of HT_.out (by kernel_rfl)) ?_
      try go_wp2
      refine bodyPost_ret (results_cell_row rfl _ _ gb576 23 #[.int .i64 t595, .int .i64 t596] (0, 0) _ rfl (by (with_reducible repeat (first | refine blk_drewN ?_ _ | refine blk_drew ?_ | refine blk_alloc ?_ _)); refine blk_put (cs := #[.int .i64 t595, .int .i64 0]) ?_ 1 _ rfl; (with_reducible repeat (first | refine blk_drewN ?_ _ | refine blk_drew ?_ | refine blk_alloc ?_ _)); refine blk_put (cs := #[.int .i64 0, .int .i64 0]) ?_ 0 _ rfl; (with_reducible repeat (first | refine blk_drewN ?_ _ | refine blk_drew ?_ | refine blk_alloc ?_ _)); exact BK576.out) Tryd.underlying23 rfl (by kernel_rfl)) rfl ?_
      exact ⟨by first | rfl | (simp [errW_none, errW_some] <;> rfl) | (simp [*, errW_none, errW_some] <;> rfl), blx⟩

end Go.Proofs.YtnjhjaifmgjljaaDoor.PM
