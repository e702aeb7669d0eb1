-- Written by a program of this session's (wip/tools/myprint.py): a function's plain form and its contract.
import Derived.Test.YtnjhjaifmgjljaaDoorPMx0
import Derived.Test.YtnjhjaifmgjljaaDoorPMx12
import Derived.Test.YtnjhjaifmgjljaaDoorPMx14
import Derived.Test.YtnjhjaifmgjljaaDoorPMx15
namespace Go.Proofs.YtnjhjaifmgjljaaDoor.PM
open Go.RowKit Go.Proofs.YtnjhjaifmgjljaaDoorW.PrintWords Go.Proofs.YtnjhjaifmgjljaaDoorW.PrintLast Go.Proofs.YtnjhjaifmgjljaaDoorW.PrintMore
attribute [local go_sem] max2_int min2_int max_two min_two max_three min_three max_four min_four   -- for this text's walks alone
set_option linter.unusedVariables false
set_option linter.unusedSimpArgs false

/-! ### levyref1_Compare: function 38 -/
def levyref1_Compare.j0 : Nat → Int → Bool → Int → Int → Int → Int → Option (Int × Int)
 | 0, _, _, _, _, _, _ => none
 | k + 1, x0, x48, x393000, x393001, x394000, x394001 => if x48 = true then ((levyref1_bad.f 5).bind fun bt417 => (some (bt417.1, bt417.2))) else (if x0 = 25 then (if x393001 = x394001 then (some (3, 1)) else (some (3, 0))) else (if x0 = 26 then (if x393001 = x394001 then (some (3, 0)) else (some (3, 1))) else (if x0 = 27 then (if x393001 < x394001 then (some (3, 1)) else (some (3, 0))) else (if x0 = 28 then (if x393001 ≤ x394001 then (some (3, 1)) else (some (3, 0))) else (if x0 = 29 then (if x393001 > x394001 then (some (3, 1)) else (some (3, 0))) else (if x0 = 30 then (if x393001 ≥ x394001 then (some (3, 1)) else (some (3, 0))) else (some (3, 0))))))))
def levyref1_Compare.f (k : Nat) (a0 : Int) (a1_0 : Int) (a1_1 : Int) (a2_0 : Int) (a2_1 : Int) : Option (Int × Int) := (levyref1_looked.f k (([(⟨a1_0, a1_1⟩ : S23), (⟨a2_0, a2_1⟩ : S23)] : List (S23)))).bind fun bt398 => (if bt398.2.2 = true then (some (bt398.1, bt398.2.1)) else ((some (([(⟨a1_0, a1_1⟩ : S23), (⟨a2_0, a2_1⟩ : S23)] : List (S23)) : List (S23))).bind fun y402 => (if a0 < 25 then (levyref1_Compare.j0 k a0 true a1_0 a1_1 a2_0 a2_1) else (if a0 > 30 then (levyref1_Compare.j0 k a0 true a1_0 a1_1 a2_0 a2_1) else (if a0 ≤ 26 then ((levyref1_alike.f k y402 (([1, 2, 3, 4, 5] : List Int))).bind fun t408 => (if t408 = true then (if a0 > 26 then ((levyref1_alike.f k y402 (([1, 2, 4] : List Int))).bind fun t412 => (levyref1_Compare.j0 k a0 (!t412) a1_0 a1_1 a2_0 a2_1)) else (levyref1_Compare.j0 k a0 false a1_0 a1_1 a2_0 a2_1)) else (levyref1_Compare.j0 k a0 true a1_0 a1_1 a2_0 a2_1))) else (if a0 > 26 then ((levyref1_alike.f k y402 (([1, 2, 4] : List Int))).bind fun t416 => (levyref1_Compare.j0 k a0 (!t416) a1_0 a1_1 a2_0 a2_1)) else (levyref1_Compare.j0 k a0 false a1_0 a1_1 a2_0 a2_1)))))))
theorem levyref1_Compare.mono_l : ∀ k, (∀ y0 y1 y2 y3 y4 y5, LeO (levyref1_Compare.j0 k y0 y1 y2 y3 y4 y5) (levyref1_Compare.j0 (k + 1) y0 y1 y2 y3 y4 y5))
 | 0 => fun _ _ _ _ _ _ r h => by simp [levyref1_Compare.j0] at h
 | k + 1 => by
  have ih0 := levyref1_Compare.mono_l k
  ·intro y0 y1 y2 y3 y4 y5
   unfold levyref1_Compare.j0
   repeat' first
   | (with_reducible exact ih0 _ _ _ _ _ _)
   | (with_reducible exact levyref1_alike.mono _ _ _)
   | (with_reducible exact levyref1_looked.mono _ _)
   | (with_reducible exact LeO.refl _)
   | (with_reducible exact LeO.none _)
   | (with_reducible refine LeO.ite ?_ ?_)
   | (with_reducible refine LeO.bind ?_ (fun _ => ?_))
   | exact ih0 _ _ _ _ _ _
   | exact levyref1_alike.mono _ _ _
   | exact levyref1_looked.mono _ _
   | exact LeO.none _
   | refine LeO.ite ?_ ?_
   | refine LeO.bind ?_ (fun _ => ?_)
theorem levyref1_Compare.mono : ∀ a0 a1 a2 a3 a4 k, LeO (levyref1_Compare.f k a0 a1 a2 a3 a4) (levyref1_Compare.f (k + 1) a0 a1 a2 a3 a4) := by
 intro a0 a1 a2 a3 a4 k
 have ih0 := levyref1_Compare.mono_l k
 unfold levyref1_Compare.f
 repeat' first
   | (with_reducible exact ih0 _ _ _ _ _ _)
   | (with_reducible exact levyref1_alike.mono _ _ _)
   | (with_reducible exact levyref1_looked.mono _ _)
   | (with_reducible exact LeO.refl _)
   | (with_reducible exact LeO.none _)
   | (with_reducible refine LeO.ite ?_ ?_)
   | (with_reducible refine LeO.bind ?_ (fun _ => ?_))
   | exact ih0 _ _ _ _ _ _
   | exact levyref1_alike.mono _ _ _
   | exact levyref1_looked.mono _ _
   | exact LeO.none _
   | refine LeO.ite ?_ ?_
   | refine LeO.bind ?_ (fun _ => ?_)
set_option maxHeartbeats 8000000 in
set_option maxRecDepth 100000 in
theorem levyref1_Compare.calls (k : Nat) (a0 : Int) (a1_0 : Int) (a1_1 : Int) (a2_0 : Int) (a2_1 : Int) (r1 : Int) (r2 : Int) (w : World) (h : levyref1_Compare.f k a0 a1_0 a1_1 a2_0 a2_1 = some (r1, r2)) :
  Calls Tryd.prog 38 #[.int .i64 a0, .agg #[.int .i64 a1_0, .int .i64 a1_1], .agg #[.int .i64 a2_0, .int .i64 a2_1]] w fun e w' => e = .returned (.agg #[.int .i64 r1, .int .i64 r2]) ∧ Below w.heap.size w w' := by
 have hu23 := Tryd.underlying23
 have HB := Aside0.mk (Below.refl w.heap.size w)
 have H : ((levyref1_looked.f k (([(⟨a1_0, a1_1⟩ : S23), (⟨a2_0, a2_1⟩ : S23)] : List (S23)))).bind fun bt398 => (if bt398.2.2 = true then (some (bt398.1, bt398.2.1)) else ((some (([(⟨a1_0, a1_1⟩ : S23), (⟨a2_0, a2_1⟩ : S23)] : List (S23)) : List (S23))).bind fun y402 => (if a0 < 25 then (levyref1_Compare.j0 k a0 true a1_0 a1_1 a2_0 a2_1) else (if a0 > 30 then (levyref1_Compare.j0 k a0 true a1_0 a1_1 a2_0 a2_1) else (if a0 ≤ 26 then ((levyref1_alike.f k y402 (([1, 2, 3, 4, 5] : List Int))).bind fun t408 => (if t408 = true then (if a0 > 26 then ((levyref1_alike.f k y402 (([1, 2, 4] : List Int))).bind fun t412 => (levyref1_Compare.j0 k a0 (!t412) a1_0 a1_1 a2_0 a2_1)) else (levyref1_Compare.j0 k a0 false a1_0 a1_1 a2_0 a2_1)) else (levyref1_Compare.j0 k a0 true a1_0 a1_1 a2_0 a2_1))) else (if a0 > 26 then ((levyref1_alike.f k y402 (([1, 2, 4] : List Int))).bind fun t416 => (levyref1_Compare.j0 k a0 (!t416) a1_0 a1_1 a2_0 a2_1)) else (levyref1_Compare.j0 k a0 false a1_0 a1_1 a2_0 a2_1)))))))) = some (r1, r2) := h
 clear h
 obtain ⟨y395, hy395⟩ : ∃ y_ : List (S23), y_ = (([(⟨a1_0, a1_1⟩ : S23), (⟨a2_0, a2_1⟩ : S23)] : List (S23))) := ⟨_, rfl⟩
 replace H : ((levyref1_looked.f k y395).bind fun bt398 => (if bt398.2.2 = true then (some (bt398.1, bt398.2.1)) else ((some (([(⟨a1_0, a1_1⟩ : S23), (⟨a2_0, a2_1⟩ : S23)] : List (S23)) : List (S23))).bind fun y402 => (if a0 < 25 then (levyref1_Compare.j0 k a0 true a1_0 a1_1 a2_0 a2_1) else (if a0 > 30 then (levyref1_Compare.j0 k a0 true a1_0 a1_1 a2_0 a2_1) else (if a0 ≤ 26 then ((levyref1_alike.f k y402 (([1, 2, 3, 4, 5] : List Int))).bind fun t408 => (if t408 = true then (if a0 > 26 then ((levyref1_alike.f k y402 (([1, 2, 4] : List Int))).bind fun t412 => (levyref1_Compare.j0 k a0 (!t412) a1_0 a1_1 a2_0 a2_1)) else (levyref1_Compare.j0 k a0 false a1_0 a1_1 a2_0 a2_1)) else (levyref1_Compare.j0 k a0 true a1_0 a1_1 a2_0 a2_1))) else (if a0 > 26 then ((levyref1_alike.f k y402 (([1, 2, 4] : List Int))).bind fun t416 => (levyref1_Compare.j0 k a0 (!t416) a1_0 a1_1 a2_0 a2_1)) else (levyref1_Compare.j0 k a0 false a1_0 a1_1 a2_0 a2_1)))))))) = some (r1, r2) := by first | (rw [hy395]; with_reducible exact H) | (have H2_ := (Option.bind_some _ _).symm.trans H; rw [hy395]; with_reducible exact H2_) | (have H2_ := (Option.bind_some _ _).symm.trans H; with_reducible exact H2_) | with_reducible exact H | (rw [hy395]; exact H) | exact H
 have Ny395 := Aside0.mk hy395
 clear hy395
 replace H := Option.bind_eq_some_iff.mp H
 obtain ⟨⟨t398, t399, t400⟩, A40, H⟩ := H
 replace H : (if t400 = true then (some (t398, t399)) else ((some (([(⟨a1_0, a1_1⟩ : S23), (⟨a2_0, a2_1⟩ : S23)] : List (S23)) : List (S23))).bind fun y402 => (if a0 < 25 then (levyref1_Compare.j0 k a0 true a1_0 a1_1 a2_0 a2_1) else (if a0 > 30 then (levyref1_Compare.j0 k a0 true a1_0 a1_1 a2_0 a2_1) else (if a0 ≤ 26 then ((levyref1_alike.f k y402 (([1, 2, 3, 4, 5] : List Int))).bind fun t408 => (if t408 = true then (if a0 > 26 then ((levyref1_alike.f k y402 (([1, 2, 4] : List Int))).bind fun t412 => (levyref1_Compare.j0 k a0 (!t412) a1_0 a1_1 a2_0 a2_1)) else (levyref1_Compare.j0 k a0 false a1_0 a1_1 a2_0 a2_1)) else (levyref1_Compare.j0 k a0 true a1_0 a1_1 a2_0 a2_1))) else (if a0 > 26 then ((levyref1_alike.f k y402 (([1, 2, 4] : List Int))).bind fun t416 => (levyref1_Compare.j0 k a0 (!t416) a1_0 a1_1 a2_0 a2_1)) else (levyref1_Compare.j0 k a0 false a1_0 a1_1 a2_0 a2_1))))))) = some (r1, r2) := H
 have A4 := Aside0.mk A40
 clear A40
 by_cases c5 : t400 = true
 ·subst c5
  have H1 : (some (t398, t399)) = some (r1, r2) := by rw [if_pos rfl] at H; exact H
  clear H
  have H := H1
  clear H1
  simp only [Option.some.injEq, Prod.mk.injEq] at H
  obtain ⟨rfl, rfl⟩ := H
  go_enter Tryd.func38, Tryd.ntmps38
  go_wp2_with (first | ((with_reducible refine gate_dst (N := 4) rfl ?_); (try (refine gate_guard (by rfl) ?_; dsimp only)); refine box_event ?hg (N := 4) ?hd (cs := #[.int .i64 a1_0, .int .i64 a1_1]) (t := 23) ?hr ?_; (case hd => rfl); (case hg => rfl); (case hr => first | (go_simp; done) | (go_simp; rfl)); intro gb392 hg w6 hbox hb; have n0_ := Aside0.mk (below_step blx hb); have n1_ := Aside0.mk (hbox); have n2_ := Aside0.mk ((by rw [hg]; exact (below_size blx) : w.heap.size ≤ gb392)); have n3_ := Aside0.mk ((by rw [hg]; exact (below_size blx) : w.heap.size ≤ gb392)); clear HB; have HB := n0_; have BK392 := n1_; have GW392 := n2_; have GE392 := n3_; clear n0_ n1_ n2_ n3_; clear hb hbox hg) | ((with_reducible refine gate_dst (N := 5) rfl ?_); (try (refine gate_guard (by rfl) ?_; dsimp only)); refine box_event ?hg (N := 5) ?hd (cs := #[.int .i64 a2_0, .int .i64 a2_1]) (t := 23) ?hr ?_; (case hd => rfl); (case hg => rfl); (case hr => first | (go_simp; done) | (go_simp; rfl)); intro gb393 hg w7 hbox hb; have n0_ := Aside0.mk (blk_below (g := gb392) (o := .cells #[.int .i64 a1_0, .int .i64 a1_1] 23 (0, 0)) bkx hb); have n1_ := Aside0.mk (below_step blx hb); have n2_ := Aside0.mk (hbox); have n3_ := Aside0.mk ((by rw [hg]; exact (below_size blx) : w.heap.size ≤ gb393)); have n4_ := Aside0.mk ((by rw [hg]; exact (below_size blx) : w.heap.size ≤ gb393)); have n5_ := Aside0.mk ((by rw [hg]; exact Nat.ne_of_lt (blk_lt (g := gb392) (o := .cells #[.int .i64 a1_0, .int .i64 a1_1] 23 (0, 0)) bkx) : gb392 ≠ gb393)); have n6_ := Aside0.mk ((by rw [hg]; exact Nat.ne_of_gt (blk_lt (g := gb392) (o := .cells #[.int .i64 a1_0, .int .i64 a1_1] 23 (0, 0)) bkx) : gb393 ≠ gb392)); clear BK392; clear HB; have BK392 := n0_; have HB := n1_; have BK393 := n2_; have GW393 := n3_; have GE393 := n4_; have NB392_393 := n5_; have NB393_392 := n6_; clear n0_ n1_ n2_ n3_ n4_ n5_ n6_; clear hb hbox hg) | ((with_reducible refine gate_dst (N := 6) rfl ?_); (try (refine gate_guard (by rfl) ?_; dsimp only)); refine box_event ?hg (N := 6) ?hd (cs := #[.int .i64 0, .int .i64 0]) (t := 23) ?hr ?_; (case hd => rfl); (case hg => rfl); (case hr => first | (go_simp; done) | (go_simp; rfl)); intro gb394 hg w8 hbox hb; have n0_ := Aside0.mk (blk_below (g := gb392) (o := .cells #[.int .i64 a1_0, .int .i64 a1_1] 23 (0, 0)) bkx hb); have n1_ := Aside0.mk (blk_below (g := gb393) (o := .cells #[.int .i64 a2_0, .int .i64 a2_1] 23 (0, 0)) bkx hb); have n2_ := Aside0.mk (below_step blx hb); have n3_ := Aside0.mk (hbox); have n4_ := Aside0.mk ((by rw [hg]; exact (below_size blx) : w.heap.size ≤ gb394)); have n5_ := Aside0.mk ((by rw [hg]; exact (below_size blx) : w.heap.size ≤ gb394)); have n6_ := Aside0.mk ((by rw [hg]; exact Nat.ne_of_lt (blk_lt (g := gb392) (o := .cells #[.int .i64 a1_0, .int .i64 a1_1] 23 (0, 0)) bkx) : gb392 ≠ gb394)); have n7_ := Aside0.mk ((by rw [hg]; exact Nat.ne_of_gt (blk_lt (g := gb392) (o := .cells #[.int .i64 a1_0, .int .i64 a1_1] 23 (0, 0)) bkx) : gb394 ≠ gb392)); have n8_ := Aside0.mk ((by rw [hg]; exact Nat.ne_of_lt (blk_lt (g := gb393) (o := .cells #[.int .i64 a2_0, .int .i64 a2_1] 23 (0, 0)) bkx) : gb393 ≠ gb394)); have n9_ := Aside0.mk ((by rw [hg]; exact Nat.ne_of_gt (blk_lt (g := gb393) (o := .cells #[.int .i64 a2_0, .int .i64 a2_1] 23 (0, 0)) bkx) : gb394 ≠ gb393)); clear BK392; clear BK393; clear HB; have BK392 := n0_; have BK393 := n1_; have HB := n2_; have BK394 := n3_; have GW394 := n4_; have GE394 := n5_; have NB392_394 := n6_; have NB394_392 := n7_; have NB393_394 := n8_; have NB394_393 := n9_; clear n0_ n1_ n2_ n3_ n4_ n5_ n6_ n7_ n8_ n9_; clear hb hbox hg; have hnb9 := NB392_393.out; have hnc9 := NB393_392.out; have hnb10 := NB392_394.out; have hnc10 := NB394_392.out; have hcz11_0 : w8.cell? ⟨gb392, 0, none⟩ = some (.int .i64 a1_0) := (blk_cell BK392.out 0).trans rfl; have hcz11_1 : w8.cell? ⟨gb392, 1, none⟩ = some (.int .i64 a1_1) := (blk_cell BK392.out 1).trans rfl; have hfz11_0 := blk_frozen BK392.out 0; have hfz11_1 := blk_frozen BK392.out 1; have hnb12 := NB393_394.out; have hnc12 := NB394_393.out; have hcz13_0 : w8.cell? ⟨gb393, 0, none⟩ = some (.int .i64 a2_0) := (blk_cell BK393.out 0).trans rfl; have hcz13_1 : w8.cell? ⟨gb393, 1, none⟩ = some (.int .i64 a2_1) := (blk_cell BK393.out 1).trans rfl; have hfz13_0 := blk_frozen BK393.out 0; have hfz13_1 := blk_frozen BK393.out 1) | ((with_reducible refine gate_dst (N := 14) rfl ?_); (try (refine gate_guard (by rfl) ?_; dsimp only)); refine Kd.R_lit k23 _ 23 ?hg (N := 14) ?hd (xs := ([(⟨a1_0, a1_1⟩ : S23), (⟨a2_0, a2_1⟩ : S23)] : List (S23))) (inner := [.int .i64 a1_0, .int .i64 a1_1, .int .i64 a2_0, .int .i64 a2_1]) (ok := fun _ => True) (okp := fun _ => True) ?hr ?hp (fun _ hk => hk) trivial (Below.refl _ _) (Nat.le_refl _) (by simp) ?_; (case hd => rfl); (case hg => rfl); (case hr => first | (go_simp; done) | (go_simp; rfl)); (case hp => exact (Reps.c2 (show Kd.M k23 _ _ _ (⟨a1_0, a1_1⟩ : S23) [.int .i64 a1_0, .int .i64 a1_1] from (k23_mkM _ _ _ (⟨a1_0, a1_1⟩ : S23) )) (Reps.c2 (show Kd.M k23 _ _ _ (⟨a2_0, a2_1⟩ : S23) [.int .i64 a2_0, .int .i64 a2_1] from (k23_mkM _ _ _ (⟨a2_0, a2_1⟩ : S23) )) (Reps.none _ _)))); intro v396 w14 ho15 hb hg_ hnew_; clear hg_ hnew_; (first | rw [← Ny395.out] at ho15 | (simp only [Int.reduceToNat] at ho15; rw [← Ny395.out] at ho15)); have n0_ := Aside0.mk (Kd.R_lower (Kd.R_newB (Kd.R_newB (Kd.R_newB ho15 (g := gb392) (o := .cells #[.int .i64 a1_0, .int .i64 a1_1] 23 (0, 0)) bkx) (g := gb393) (o := .cells #[.int .i64 a2_0, .int .i64 a2_1] 23 (0, 0)) bkx) (g := gb394) (o := .cells #[.int .i64 0, .int .i64 0] 23 (0, 0)) bkx) (below_size blx)); have n1_ := Aside0.mk (blk_below (g := gb392) (o := .cells #[.int .i64 a1_0, .int .i64 a1_1] 23 (0, 0)) bkx hb); have n2_ := Aside0.mk (blk_below (g := gb393) (o := .cells #[.int .i64 a2_0, .int .i64 a2_1] 23 (0, 0)) bkx hb); have n3_ := Aside0.mk (blk_below (g := gb394) (o := .cells #[.int .i64 0, .int .i64 0] 23 (0, 0)) bkx hb); have n4_ := Aside0.mk (below_step blx hb); clear BK392; clear BK393; clear BK394; clear HB; have HO397 := n0_; have BK392 := n1_; have BK393 := n2_; have BK394 := n3_; have HB := n4_; clear n0_ n1_ n2_ n3_ n4_; clear hb ho15; obtain ⟨Ao16, co16, eo16⟩ := Kd.R_slice HO397.out; subst eo16) | ((with_reducible refine gate_callee (f := 63) rfl ?_); refine goesL_ (some 15) rfl rfl Tryd.func63 (by kernel_rfl) rfl #[.slice Ao16 y395.length co16] rfl agx ?_; (with_reducible refine (levyref1_looked.calls k _ _ y395 t398 t399 true _ ?side1 ?side2 A4.out).mono ?_); (case side1 => repeat (first | exact (Kd.R_reads' HO397.out).2.2 | (with_reducible refine Kd.C_alloc ?_ _) | (with_reducible refine Kd.C_drewN ?_ _) | (with_reducible refine Kd.C_drew ?_))); (case side2 => exact (Kd.R_reads' HO397.out).2.1); rintro e w17 ⟨rfl, hb⟩; refine ⟨_, rfl, ?_⟩; have n0_ := Aside0.mk (Kd.R_below (by (with_reducible repeat (first | apply Kd.R_alloc | apply Kd.R_drewN | apply Kd.R_drew)); exact HO397.out) hb); have n1_ := Aside0.mk (blk_below (g := gb392) (o := .cells #[.int .i64 a1_0, .int .i64 a1_1] 23 (0, 0)) bkx hb); have n2_ := Aside0.mk (blk_below (g := gb393) (o := .cells #[.int .i64 a2_0, .int .i64 a2_1] 23 (0, 0)) bkx hb); have n3_ := Aside0.mk (blk_below (g := gb394) (o := .cells #[.int .i64 0, .int .i64 0] 23 (0, 0)) bkx hb); have n4_ := Aside0.mk (below_step blx hb); clear HO397; clear BK392; clear BK393; clear BK394; clear HB; have HO397 := n0_; have BK392 := n1_; have BK393 := n2_; have BK394 := n3_; have HB := n4_; clear n0_ n1_ n2_ n3_ n4_; (try clear hb); (try clear hb2); (try clear hk); (try clear hi)) | ((with_reducible refine gate_dst (N := 7) rfl ?_); (try (refine gate_guard (by rfl) ?_; dsimp only)); refine box_event ?hg (N := 7) ?hd (cs := #[.int .i64 0, .int .i64 0]) (t := 23) ?hr ?_; (case hd => rfl); (case hg => rfl); (case hr => first | (go_simp; done) | (go_simp; rfl)); intro gb401 hg w18 hbox hb; have n0_ := Aside0.mk (Kd.R_below (Kd.R_elderB (by (with_reducible repeat (first | apply Kd.R_alloc | apply Kd.R_drewN | apply Kd.R_drew)); exact HO397.out) gb401 (Nat.le_of_eq hg.symm)) hb); have n1_ := Aside0.mk (blk_below (g := gb392) (o := .cells #[.int .i64 a1_0, .int .i64 a1_1] 23 (0, 0)) bkx hb); have n2_ := Aside0.mk (blk_below (g := gb393) (o := .cells #[.int .i64 a2_0, .int .i64 a2_1] 23 (0, 0)) bkx hb); have n3_ := Aside0.mk (blk_below (g := gb394) (o := .cells #[.int .i64 0, .int .i64 0] 23 (0, 0)) bkx hb); have n4_ := Aside0.mk (below_step blx hb); have n5_ := Aside0.mk (hbox); have n6_ := Aside0.mk ((by rw [hg]; exact (below_size blx) : w.heap.size ≤ gb401)); have n7_ := Aside0.mk ((by rw [hg]; exact (below_size blx) : w.heap.size ≤ gb401)); have n8_ := Aside0.mk ((by rw [hg]; exact Nat.ne_of_lt (blk_lt (g := gb392) (o := .cells #[.int .i64 a1_0, .int .i64 a1_1] 23 (0, 0)) bkx) : gb392 ≠ gb401)); have n9_ := Aside0.mk ((by rw [hg]; exact Nat.ne_of_gt (blk_lt (g := gb392) (o := .cells #[.int .i64 a1_0, .int .i64 a1_1] 23 (0, 0)) bkx) : gb401 ≠ gb392)); have n10_ := Aside0.mk ((by rw [hg]; exact Nat.ne_of_lt (blk_lt (g := gb393) (o := .cells #[.int .i64 a2_0, .int .i64 a2_1] 23 (0, 0)) bkx) : gb393 ≠ gb401)); have n11_ := Aside0.mk ((by rw [hg]; exact Nat.ne_of_gt (blk_lt (g := gb393) (o := .cells #[.int .i64 a2_0, .int .i64 a2_1] 23 (0, 0)) bkx) : gb401 ≠ gb393)); have n12_ := Aside0.mk ((by rw [hg]; exact Nat.ne_of_lt (blk_lt (g := gb394) (o := .cells #[.int .i64 0, .int .i64 0] 23 (0, 0)) bkx) : gb394 ≠ gb401)); have n13_ := Aside0.mk ((by rw [hg]; exact Nat.ne_of_gt (blk_lt (g := gb394) (o := .cells #[.int .i64 0, .int .i64 0] 23 (0, 0)) bkx) : gb401 ≠ gb394)); clear HO397; clear BK392; clear BK393; clear BK394; clear HB; have HO397 := n0_; have BK392 := n1_; have BK393 := n2_; have BK394 := n3_; have HB := n4_; have BK401 := n5_; have GW401 := n6_; have GE401 := n7_; have NB392_401 := n8_; have NB401_392 := n9_; have NB393_401 := n10_; have NB401_393 := n11_; have NB394_401 := n12_; have NB401_394 := n13_; clear n0_ n1_ n2_ n3_ n4_ n5_ n6_ n7_ n8_ n9_ n10_ n11_ n12_ n13_; clear hb hbox hg; have hnb19 := NB401_392.out; have hnc19 := NB392_401.out; have hnb20 := NB401_393.out; have hnc20 := NB393_401.out; have hnb21 := NB401_394.out; have hnc21 := NB394_401.out; have hcz22_0 : w18.cell? ⟨gb401, 0, none⟩ = some (.int .i64 0) := (blk_cell BK401.out 0).trans rfl; have hcz22_1 : w18.cell? ⟨gb401, 1, none⟩ = some (.int .i64 0) := (blk_cell BK401.out 1).trans rfl; have hfz22_0 := blk_frozen BK401.out 0; have hfz22_1 := blk_frozen BK401.out 1; have hcz23_0 : w18.cell? ⟨gb394, 0, none⟩ = some (.int .i64 0) := (blk_cell BK394.out 0).trans rfl; have hcz23_1 : w18.cell? ⟨gb394, 1, none⟩ = some (.int .i64 0) := (blk_cell BK394.out 1).trans rfl; have hfz23_0 := blk_frozen BK394.out 0; have hfz23_1 := blk_frozen BK394.out 1))
  refine bodyPost_ret (results_cell_row rfl _ _ gb394 23 #[.int .i64 t398, .int .i64 t399] (0, 0) _ rfl (by (with_reducible repeat (first | refine blk_drewN ?_ _ | refine blk_drew ?_ | refine blk_alloc ?_ _)); refine blk_put (cs := #[.int .i64 t398, .int .i64 0]) ?_ 1 _ rfl; (with_reducible repeat (first | refine blk_drewN ?_ _ | refine blk_drew ?_ | refine blk_alloc ?_ _)); refine blk_put (cs := #[.int .i64 0, .int .i64 0]) ?_ 0 _ rfl; (with_reducible repeat (first | refine blk_drewN ?_ _ | refine blk_drew ?_ | refine blk_alloc ?_ _)); refine blk_far ?_ NB394_401.out _; (with_reducible repeat (first | refine blk_drewN ?_ _ | refine blk_drew ?_ | refine blk_alloc ?_ _)); refine blk_far ?_ NB394_401.out _; (with_reducible repeat (first | refine blk_drewN ?_ _ | refine blk_drew ?_ | refine blk_alloc ?_ _)); exact BK394.out) Tryd.underlying23 rfl (by kernel_rfl)) rfl ?_
  exact ⟨by first | rfl | (simp [errW_none, errW_some] <;> rfl) | (simp [*, errW_none, errW_some] <;> rfl), blx⟩
 ·replace c5 := Bool.eq_false_iff.mpr c5
  subst c5
  have H1 : ((some (([(⟨a1_0, a1_1⟩ : S23), (⟨a2_0, a2_1⟩ : S23)] : List (S23)) : List (S23))).bind fun y402 => (if a0 < 25 then (levyref1_Compare.j0 k a0 true a1_0 a1_1 a2_0 a2_1) else (if a0 > 30 then (levyref1_Compare.j0 k a0 true a1_0 a1_1 a2_0 a2_1) else (if a0 ≤ 26 then ((levyref1_alike.f k y402 (([1, 2, 3, 4, 5] : List Int))).bind fun t408 => (if t408 = true then (if a0 > 26 then ((levyref1_alike.f k y402 (([1, 2, 4] : List Int))).bind fun t412 => (levyref1_Compare.j0 k a0 (!t412) a1_0 a1_1 a2_0 a2_1)) else (levyref1_Compare.j0 k a0 false a1_0 a1_1 a2_0 a2_1)) else (levyref1_Compare.j0 k a0 true a1_0 a1_1 a2_0 a2_1))) else (if a0 > 26 then ((levyref1_alike.f k y402 (([1, 2, 4] : List Int))).bind fun t416 => (levyref1_Compare.j0 k a0 (!t416) a1_0 a1_1 a2_0 a2_1)) else (levyref1_Compare.j0 k a0 false a1_0 a1_1 a2_0 a2_1)))))) = some (r1, r2) := by rw [if_neg (show ¬ (false = true) by decide)] at H; exact H
  clear H
  have H := H1
  clear H1
  obtain ⟨y402, hy402⟩ : ∃ y_ : List (S23), y_ = (([(⟨a1_0, a1_1⟩ : S23), (⟨a2_0, a2_1⟩ : S23)] : List (S23))) := ⟨_, rfl⟩
  replace H : (if a0 < 25 then (levyref1_Compare.j0 k a0 true a1_0 a1_1 a2_0 a2_1) else (if a0 > 30 then (levyref1_Compare.j0 k a0 true a1_0 a1_1 a2_0 a2_1) else (if a0 ≤ 26 then ((levyref1_alike.f k y402 (([1, 2, 3, 4, 5] : List Int))).bind fun t408 => (if t408 = true then (if a0 > 26 then ((levyref1_alike.f k y402 (([1, 2, 4] : List Int))).bind fun t412 => (levyref1_Compare.j0 k a0 (!t412) a1_0 a1_1 a2_0 a2_1)) else (levyref1_Compare.j0 k a0 false a1_0 a1_1 a2_0 a2_1)) else (levyref1_Compare.j0 k a0 true a1_0 a1_1 a2_0 a2_1))) else (if a0 > 26 then ((levyref1_alike.f k y402 (([1, 2, 4] : List Int))).bind fun t416 => (levyref1_Compare.j0 k a0 (!t416) a1_0 a1_1 a2_0 a2_1)) else (levyref1_Compare.j0 k a0 false a1_0 a1_1 a2_0 a2_1))))) = some (r1, r2) := by first | (rw [hy402]; with_reducible exact H) | (have H2_ := (Option.bind_some _ _).symm.trans H; rw [hy402]; with_reducible exact H2_) | (have H2_ := (Option.bind_some _ _).symm.trans H; with_reducible exact H2_) | with_reducible exact H | (rw [hy402]; exact H) | exact H
  have Ny402 := Aside0.mk hy402
  clear hy402
  have HC24 := Aside0.mk H
  clear H
  go_enter Tryd.func38, Tryd.ntmps38
  go_upto_region 5 with (first | ((with_reducible refine gate_dst (N := 4) rfl ?_); (try (refine gate_guard (by rfl) ?_; dsimp only)); refine box_event ?hg (N := 4) ?hd (cs := #[.int .i64 a1_0, .int .i64 a1_1]) (t := 23) ?hr ?_; (case hd => rfl); (case hg => rfl); (case hr => first | (go_simp; done) | (go_simp; rfl)); intro gb392 hg w25 hbox hb; have n0_ := Aside0.mk (below_step blx hb); have n1_ := Aside0.mk (hbox); have n2_ := Aside0.mk ((by rw [hg]; exact (below_size blx) : w.heap.size ≤ gb392)); have n3_ := Aside0.mk ((by rw [hg]; exact (below_size blx) : w.heap.size ≤ gb392)); clear HB; have HB := n0_; have BK392 := n1_; have GW392 := n2_; have GE392 := n3_; clear n0_ n1_ n2_ n3_; clear hb hbox hg) | ((with_reducible refine gate_dst (N := 5) rfl ?_); (try (refine gate_guard (by rfl) ?_; dsimp only)); refine box_event ?hg (N := 5) ?hd (cs := #[.int .i64 a2_0, .int .i64 a2_1]) (t := 23) ?hr ?_; (case hd => rfl); (case hg => rfl); (case hr => first | (go_simp; done) | (go_simp; rfl)); intro gb393 hg w26 hbox hb; have n0_ := Aside0.mk (blk_below (g := gb392) (o := .cells #[.int .i64 a1_0, .int .i64 a1_1] 23 (0, 0)) bkx hb); have n1_ := Aside0.mk (below_step blx hb); have n2_ := Aside0.mk (hbox); have n3_ := Aside0.mk ((by rw [hg]; exact (below_size blx) : w.heap.size ≤ gb393)); have n4_ := Aside0.mk ((by rw [hg]; exact (below_size blx) : w.heap.size ≤ gb393)); have n5_ := Aside0.mk ((by rw [hg]; exact Nat.ne_of_lt (blk_lt (g := gb392) (o := .cells #[.int .i64 a1_0, .int .i64 a1_1] 23 (0, 0)) bkx) : gb392 ≠ gb393)); have n6_ := Aside0.mk ((by rw [hg]; exact Nat.ne_of_gt (blk_lt (g := gb392) (o := .cells #[.int .i64 a1_0, .int .i64 a1_1] 23 (0, 0)) bkx) : gb393 ≠ gb392)); clear BK392; clear HB; have BK392 := n0_; have HB := n1_; have BK393 := n2_; have GW393 := n3_; have GE393 := n4_; have NB392_393 := n5_; have NB393_392 := n6_; clear n0_ n1_ n2_ n3_ n4_ n5_ n6_; clear hb hbox hg) | ((with_reducible refine gate_dst (N := 6) rfl ?_); (try (refine gate_guard (by rfl) ?_; dsimp only)); refine box_event ?hg (N := 6) ?hd (cs := #[.int .i64 0, .int .i64 0]) (t := 23) ?hr ?_; (case hd => rfl); (case hg => rfl); (case hr => first | (go_simp; done) | (go_simp; rfl)); intro gb394 hg w27 hbox hb; have n0_ := Aside0.mk (blk_below (g := gb392) (o := .cells #[.int .i64 a1_0, .int .i64 a1_1] 23 (0, 0)) bkx hb); have n1_ := Aside0.mk (blk_below (g := gb393) (o := .cells #[.int .i64 a2_0, .int .i64 a2_1] 23 (0, 0)) bkx hb); have n2_ := Aside0.mk (below_step blx hb); have n3_ := Aside0.mk (hbox); have n4_ := Aside0.mk ((by rw [hg]; exact (below_size blx) : w.heap.size ≤ gb394)); have n5_ := Aside0.mk ((by rw [hg]; exact (below_size blx) : w.heap.size ≤ gb394)); have n6_ := Aside0.mk ((by rw [hg]; exact Nat.ne_of_lt (blk_lt (g := gb392) (o := .cells #[.int .i64 a1_0, .int .i64 a1_1] 23 (0, 0)) bkx) : gb392 ≠ gb394)); have n7_ := Aside0.mk ((by rw [hg]; exact Nat.ne_of_gt (blk_lt (g := gb392) (o := .cells #[.int .i64 a1_0, .int .i64 a1_1] 23 (0, 0)) bkx) : gb394 ≠ gb392)); have n8_ := Aside0.mk ((by rw [hg]; exact Nat.ne_of_lt (blk_lt (g := gb393) (o := .cells #[.int .i64 a2_0, .int .i64 a2_1] 23 (0, 0)) bkx) : gb393 ≠ gb394)); have n9_ := Aside0.mk ((by rw [hg]; exact Nat.ne_of_gt (blk_lt (g := gb393) (o := .cells #[.int .i64 a2_0, .int .i64 a2_1] 23 (0, 0)) bkx) : gb394 ≠ gb393)); clear BK392; clear BK393; clear HB; have BK392 := n0_; have BK393 := n1_; have HB := n2_; have BK394 := n3_; have GW394 := n4_; have GE394 := n5_; have NB392_394 := n6_; have NB394_392 := n7_; have NB393_394 := n8_; have NB394_393 := n9_; clear n0_ n1_ n2_ n3_ n4_ n5_ n6_ n7_ n8_ n9_; clear hb hbox hg; have hnb28 := NB392_393.out; have hnc28 := NB393_392.out; have hnb29 := NB392_394.out; have hnc29 := NB394_392.out; have hcz30_0 : w27.cell? ⟨gb392, 0, none⟩ = some (.int .i64 a1_0) := (blk_cell BK392.out 0).trans rfl; have hcz30_1 : w27.cell? ⟨gb392, 1, none⟩ = some (.int .i64 a1_1) := (blk_cell BK392.out 1).trans rfl; have hfz30_0 := blk_frozen BK392.out 0; have hfz30_1 := blk_frozen BK392.out 1; have hnb31 := NB393_394.out; have hnc31 := NB394_393.out; have hcz32_0 : w27.cell? ⟨gb393, 0, none⟩ = some (.int .i64 a2_0) := (blk_cell BK393.out 0).trans rfl; have hcz32_1 : w27.cell? ⟨gb393, 1, none⟩ = some (.int .i64 a2_1) := (blk_cell BK393.out 1).trans rfl; have hfz32_0 := blk_frozen BK393.out 0; have hfz32_1 := blk_frozen BK393.out 1) | ((with_reducible refine gate_dst (N := 14) rfl ?_); (try (refine gate_guard (by rfl) ?_; dsimp only)); refine Kd.R_lit k23 _ 23 ?hg (N := 14) ?hd (xs := ([(⟨a1_0, a1_1⟩ : S23), (⟨a2_0, a2_1⟩ : S23)] : List (S23))) (inner := [.int .i64 a1_0, .int .i64 a1_1, .int .i64 a2_0, .int .i64 a2_1]) (ok := fun _ => True) (okp := fun _ => True) ?hr ?hp (fun _ hk => hk) trivial (Below.refl _ _) (Nat.le_refl _) (by simp) ?_; (case hd => rfl); (case hg => rfl); (case hr => first | (go_simp; done) | (go_simp; rfl)); (case hp => exact (Reps.c2 (show Kd.M k23 _ _ _ (⟨a1_0, a1_1⟩ : S23) [.int .i64 a1_0, .int .i64 a1_1] from (k23_mkM _ _ _ (⟨a1_0, a1_1⟩ : S23) )) (Reps.c2 (show Kd.M k23 _ _ _ (⟨a2_0, a2_1⟩ : S23) [.int .i64 a2_0, .int .i64 a2_1] from (k23_mkM _ _ _ (⟨a2_0, a2_1⟩ : S23) )) (Reps.none _ _)))); intro v396 w33 ho34 hb hg_ hnew_; clear hg_ hnew_; (first | rw [← Ny395.out] at ho34 | (simp only [Int.reduceToNat] at ho34; rw [← Ny395.out] at ho34)); have n0_ := Aside0.mk (Kd.R_lower (Kd.R_newB (Kd.R_newB (Kd.R_newB ho34 (g := gb392) (o := .cells #[.int .i64 a1_0, .int .i64 a1_1] 23 (0, 0)) bkx) (g := gb393) (o := .cells #[.int .i64 a2_0, .int .i64 a2_1] 23 (0, 0)) bkx) (g := gb394) (o := .cells #[.int .i64 0, .int .i64 0] 23 (0, 0)) bkx) (below_size blx)); have n1_ := Aside0.mk (blk_below (g := gb392) (o := .cells #[.int .i64 a1_0, .int .i64 a1_1] 23 (0, 0)) bkx hb); have n2_ := Aside0.mk (blk_below (g := gb393) (o := .cells #[.int .i64 a2_0, .int .i64 a2_1] 23 (0, 0)) bkx hb); have n3_ := Aside0.mk (blk_below (g := gb394) (o := .cells #[.int .i64 0, .int .i64 0] 23 (0, 0)) bkx hb); have n4_ := Aside0.mk (below_step blx hb); clear BK392; clear BK393; clear BK394; clear HB; have HO397 := n0_; have BK392 := n1_; have BK393 := n2_; have BK394 := n3_; have HB := n4_; clear n0_ n1_ n2_ n3_ n4_; clear hb ho34; obtain ⟨Ao35, co35, eo35⟩ := Kd.R_slice HO397.out; subst eo35) | ((with_reducible refine gate_callee (f := 63) rfl ?_); refine goesL_ (some 15) rfl rfl Tryd.func63 (by kernel_rfl) rfl #[.slice Ao35 y395.length co35] rfl agx ?_; (with_reducible refine (levyref1_looked.calls k _ _ y395 t398 t399 false _ ?side1 ?side2 A4.out).mono ?_); (case side1 => repeat (first | exact (Kd.R_reads' HO397.out).2.2 | (with_reducible refine Kd.C_alloc ?_ _) | (with_reducible refine Kd.C_drewN ?_ _) | (with_reducible refine Kd.C_drew ?_))); (case side2 => exact (Kd.R_reads' HO397.out).2.1); rintro e w36 ⟨rfl, hb⟩; refine ⟨_, rfl, ?_⟩; have n0_ := Aside0.mk (Kd.R_below (by (with_reducible repeat (first | apply Kd.R_alloc | apply Kd.R_drewN | apply Kd.R_drew)); exact HO397.out) hb); have n1_ := Aside0.mk (blk_below (g := gb392) (o := .cells #[.int .i64 a1_0, .int .i64 a1_1] 23 (0, 0)) bkx hb); have n2_ := Aside0.mk (blk_below (g := gb393) (o := .cells #[.int .i64 a2_0, .int .i64 a2_1] 23 (0, 0)) bkx hb); have n3_ := Aside0.mk (blk_below (g := gb394) (o := .cells #[.int .i64 0, .int .i64 0] 23 (0, 0)) bkx hb); have n4_ := Aside0.mk (below_step blx hb); clear HO397; clear BK392; clear BK393; clear BK394; clear HB; have HO397 := n0_; have BK392 := n1_; have BK393 := n2_; have BK394 := n3_; have HB := n4_; clear n0_ n1_ n2_ n3_ n4_; (try clear hb); (try clear hb2); (try clear hk); (try clear hi)) | ((with_reducible refine gate_dst (N := 7) rfl ?_); (try (refine gate_guard (by rfl) ?_; dsimp only)); refine box_event ?hg (N := 7) ?hd (cs := #[.int .i64 0, .int .i64 0]) (t := 23) ?hr ?_; (case hd => rfl); (case hg => rfl); (case hr => first | (go_simp; done) | (go_simp; rfl)); intro gb401 hg w37 hbox hb; have n0_ := Aside0.mk (Kd.R_below (Kd.R_elderB (by (with_reducible repeat (first | apply Kd.R_alloc | apply Kd.R_drewN | apply Kd.R_drew)); exact HO397.out) gb401 (Nat.le_of_eq hg.symm)) hb); have n1_ := Aside0.mk (blk_below (g := gb392) (o := .cells #[.int .i64 a1_0, .int .i64 a1_1] 23 (0, 0)) bkx hb); have n2_ := Aside0.mk (blk_below (g := gb393) (o := .cells #[.int .i64 a2_0, .int .i64 a2_1] 23 (0, 0)) bkx hb); have n3_ := Aside0.mk (blk_below (g := gb394) (o := .cells #[.int .i64 0, .int .i64 0] 23 (0, 0)) bkx hb); have n4_ := Aside0.mk (below_step blx hb); have n5_ := Aside0.mk (hbox); have n6_ := Aside0.mk ((by rw [hg]; exact (below_size blx) : w.heap.size ≤ gb401)); have n7_ := Aside0.mk ((by rw [hg]; exact (below_size blx) : w.heap.size ≤ gb401)); have n8_ := Aside0.mk ((by rw [hg]; exact Nat.ne_of_lt (blk_lt (g := gb392) (o := .cells #[.int .i64 a1_0, .int .i64 a1_1] 23 (0, 0)) bkx) : gb392 ≠ gb401)); have n9_ := Aside0.mk ((by rw [hg]; exact Nat.ne_of_gt (blk_lt (g := gb392) (o := .cells #[.int .i64 a1_0, .int .i64 a1_1] 23 (0, 0)) bkx) : gb401 ≠ gb392)); have n10_ := Aside0.mk ((by rw [hg]; exact Nat.ne_of_lt (blk_lt (g := gb393) (o := .cells #[.int .i64 a2_0, .int .i64 a2_1] 23 (0, 0)) bkx) : gb393 ≠ gb401)); have n11_ := Aside0.mk ((by rw [hg]; exact Nat.ne_of_gt (blk_lt (g := gb393) (o := .cells #[.int .i64 a2_0, .int .i64 a2_1] 23 (0, 0)) bkx) : gb401 ≠ gb393)); have n12_ := Aside0.mk ((by rw [hg]; exact Nat.ne_of_lt (blk_lt (g := gb394) (o := .cells #[.int .i64 0, .int .i64 0] 23 (0, 0)) bkx) : gb394 ≠ gb401)); have n13_ := Aside0.mk ((by rw [hg]; exact Nat.ne_of_gt (blk_lt (g := gb394) (o := .cells #[.int .i64 0, .int .i64 0] 23 (0, 0)) bkx) : gb401 ≠ gb394)); clear HO397; clear BK392; clear BK393; clear BK394; clear HB; have HO397 := n0_; have BK392 := n1_; have BK393 := n2_; have BK394 := n3_; have HB := n4_; have BK401 := n5_; have GW401 := n6_; have GE401 := n7_; have NB392_401 := n8_; have NB401_392 := n9_; have NB393_401 := n10_; have NB401_393 := n11_; have NB394_401 := n12_; have NB401_394 := n13_; clear n0_ n1_ n2_ n3_ n4_ n5_ n6_ n7_ n8_ n9_ n10_ n11_ n12_ n13_; clear hb hbox hg; have hnb38 := NB401_392.out; have hnc38 := NB392_401.out; have hnb39 := NB401_393.out; have hnc39 := NB393_401.out; have hnb40 := NB401_394.out; have hnc40 := NB394_401.out; have hcz41_0 : w37.cell? ⟨gb401, 0, none⟩ = some (.int .i64 0) := (blk_cell BK401.out 0).trans rfl; have hcz41_1 : w37.cell? ⟨gb401, 1, none⟩ = some (.int .i64 0) := (blk_cell BK401.out 1).trans rfl; have hfz41_0 := blk_frozen BK401.out 0; have hfz41_1 := blk_frozen BK401.out 1; have hcz42_0 : w37.cell? ⟨gb392, 0, none⟩ = some (.int .i64 a1_0) := (blk_cell BK392.out 0).trans rfl; have hcz42_1 : w37.cell? ⟨gb392, 1, none⟩ = some (.int .i64 a1_1) := (blk_cell BK392.out 1).trans rfl; have hfz42_0 := blk_frozen BK392.out 0; have hfz42_1 := blk_frozen BK392.out 1; have hcz43_0 : w37.cell? ⟨gb393, 0, none⟩ = some (.int .i64 a2_0) := (blk_cell BK393.out 0).trans rfl; have hcz43_1 : w37.cell? ⟨gb393, 1, none⟩ = some (.int .i64 a2_1) := (blk_cell BK393.out 1).trans rfl; have hfz43_0 := blk_frozen BK393.out 0; have hfz43_1 := blk_frozen BK393.out 1) | ((with_reducible refine gate_dst (N := 22) rfl ?_); (try (refine gate_guard (by rfl) ?_; dsimp only)); refine Kd.R_lit k23 _ 23 ?hg (N := 22) ?hd (xs := ([(⟨a1_0, a1_1⟩ : S23), (⟨a2_0, a2_1⟩ : S23)] : List (S23))) (inner := [.int .i64 a1_0, .int .i64 a1_1, .int .i64 a2_0, .int .i64 a2_1]) (ok := fun _ => True) (okp := fun _ => True) ?hr ?hp (fun _ hk => hk) trivial (Below.refl _ _) (Nat.le_refl _) (by simp) ?_; (case hd => rfl); (case hg => rfl); (case hr => first | (go_simp; done) | (go_simp; rfl)); (case hp => exact (Reps.c2 (show Kd.M k23 _ _ _ (⟨a1_0, a1_1⟩ : S23) [.int .i64 a1_0, .int .i64 a1_1] from (k23_mkM _ _ _ (⟨a1_0, a1_1⟩ : S23) )) (Reps.c2 (show Kd.M k23 _ _ _ (⟨a2_0, a2_1⟩ : S23) [.int .i64 a2_0, .int .i64 a2_1] from (k23_mkM _ _ _ (⟨a2_0, a2_1⟩ : S23) )) (Reps.none _ _)))); intro v403 w44 ho45 hb hg_ hnew_; clear hg_ hnew_; (first | rw [← Ny402.out] at ho45 | (simp only [Int.reduceToNat] at ho45; rw [← Ny402.out] at ho45)); have n0_ := Aside0.mk (Kd.R_elder' (by (with_reducible repeat (first | apply Kd.R_alloc | apply Kd.R_drewN | apply Kd.R_drew)); exact (Kd.R_mono (Kd.R_far (p := ⟨gb401, 1, none⟩) (Kd.R_far (p := ⟨gb401, 0, none⟩) (Kd.R_mono HO397.out (fun k_ hk => (⟨hk, hk.2⟩ : _ ∧ k_ ≠ gb401))) (fun _ hk => hk.2) (.int .i64 t398)) (fun _ hk => hk.2) (.int .i64 t399)) (fun _ h_ => h_.1))) (Kd.R_base ho45) hb); have n1_ := Aside0.mk (Kd.R_lower (Kd.R_newB (Kd.R_newB (Kd.R_newB (Kd.R_newB (Kd.R_new' ho45 (Kd.R_lt (by (with_reducible repeat (first | apply Kd.R_alloc | apply Kd.R_drewN | apply Kd.R_drew)); exact (Kd.R_mono (Kd.R_far (p := ⟨gb401, 1, none⟩) (Kd.R_far (p := ⟨gb401, 0, none⟩) (Kd.R_mono HO397.out (fun k_ hk => (⟨hk, hk.2⟩ : _ ∧ k_ ≠ gb401))) (fun _ hk => hk.2) (.int .i64 t398)) (fun _ hk => hk.2) (.int .i64 t399)) (fun _ h_ => h_.1))))) (g := gb392) (o := .cells #[.int .i64 a1_0, .int .i64 a1_1] 23 (0, 0)) bkx) (g := gb393) (o := .cells #[.int .i64 a2_0, .int .i64 a2_1] 23 (0, 0)) bkx) (g := gb394) (o := .cells #[.int .i64 0, .int .i64 0] 23 (0, 0)) bkx) (g := gb401) (o := .cells #[.int .i64 t398, .int .i64 t399] 23 (0, 0)) (by (with_reducible repeat (first | refine blk_drewN ?_ _ | refine blk_drew ?_ | refine blk_alloc ?_ _)); refine blk_put (cs := #[.int .i64 t398, .int .i64 0]) ?_ 1 _ rfl; (with_reducible repeat (first | refine blk_drewN ?_ _ | refine blk_drew ?_ | refine blk_alloc ?_ _)); refine blk_put (cs := #[.int .i64 0, .int .i64 0]) ?_ 0 _ rfl; (with_reducible repeat (first | refine blk_drewN ?_ _ | refine blk_drew ?_ | refine blk_alloc ?_ _)); exact BK401.out)) (below_size blx)); have n2_ := Aside0.mk (blk_below (g := gb392) (o := .cells #[.int .i64 a1_0, .int .i64 a1_1] 23 (0, 0)) bkx hb); have n3_ := Aside0.mk (blk_below (g := gb393) (o := .cells #[.int .i64 a2_0, .int .i64 a2_1] 23 (0, 0)) bkx hb); have n4_ := Aside0.mk (blk_below (g := gb394) (o := .cells #[.int .i64 0, .int .i64 0] 23 (0, 0)) bkx hb); have n5_ := Aside0.mk (blk_below (g := gb401) (o := .cells #[.int .i64 t398, .int .i64 t399] 23 (0, 0)) (by (with_reducible repeat (first | refine blk_drewN ?_ _ | refine blk_drew ?_ | refine blk_alloc ?_ _)); refine blk_put (cs := #[.int .i64 t398, .int .i64 0]) ?_ 1 _ rfl; (with_reducible repeat (first | refine blk_drewN ?_ _ | refine blk_drew ?_ | refine blk_alloc ?_ _)); refine blk_put (cs := #[.int .i64 0, .int .i64 0]) ?_ 0 _ rfl; (with_reducible repeat (first | refine blk_drewN ?_ _ | refine blk_drew ?_ | refine blk_alloc ?_ _)); exact BK401.out) hb); have n6_ := Aside0.mk (below_step blx hb); clear HO397; clear BK392; clear BK393; clear BK394; clear BK401; clear HB; have HO397 := n0_; have HO404 := n1_; have BK392 := n2_; have BK393 := n3_; have BK394 := n4_; have BK401 := n5_; have HB := n6_; clear n0_ n1_ n2_ n3_ n4_ n5_ n6_; clear hb ho45))
  (try simp only [Act.put, List.setIfInBounds_toArray, List.set_cons_zero, List.set_cons_succ])
  go_cut [48] (fun v48 wc => ∃ (kq : Nat) (x48_23 : Bool), v48 = .bool x48_23 ∧ Aside0 (levyref1_Compare.j0 kq a0 x48_23 a1_0 a1_1 a2_0 a2_1 = some (r1, r2)) ∧ Aside0 (kq ≤ k) ∧ Aside0 (wc.heap[gb392]? = some (.cells #[.int .i64 a1_0, .int .i64 a1_1] 23 (0, 0))) ∧ Aside0 (wc.heap[gb393]? = some (.cells #[.int .i64 a2_0, .int .i64 a2_1] 23 (0, 0))) ∧ Aside0 (wc.heap[gb394]? = some (.cells #[.int .i64 0, .int .i64 0] 23 (0, 0))) ∧ Aside0 (wc.heap[gb401]? = some (.cells #[.int .i64 t398, .int .i64 t399] 23 (0, 0))) ∧ Aside0 (Below w.heap.size w wc))
  case first =>
   have H := HC24.out
   clear HC24
   by_cases c46 : a0 < 25
   ·rw [if_pos c46] at H
    have c46b0 : decide (a0 < 25) = true := decide_eq_true c46
    clear c46
    (first | rw [c46b0] | (simp only [i64_w, i32_w]; rw [c46b0]) | skip)
    have H' := Aside0.mk H
    clear H
    go_wp2
    go_meet
    case rel => exact ⟨_, (true), (by first | rfl | (simp; done) | (simp [*]; done)), H', ⟨by first | omega | exact Nat.le_refl _⟩, ⟨bkx⟩, ⟨bkx⟩, ⟨bkx⟩, ⟨bkx⟩, ⟨blx⟩⟩
   ·rw [if_neg c46] at H
    have c46b0 : decide (a0 < 25) = false := decide_eq_false c46
    clear c46
    (first | rw [c46b0] | (simp only [i64_w, i32_w]; rw [c46b0]) | skip)
    by_cases c47 : a0 > 30
    ·rw [if_pos c47] at H
     have c47b0 : decide (30 < a0) = true := decide_eq_true c47
     clear c47
     have H' := Aside0.mk H
     clear H
     go_wp2
     go_meet
     case rel => exact ⟨_, (true), (by first | rfl | (simp; done) | (simp [*]; done)), H', ⟨by first | omega | exact Nat.le_refl _⟩, ⟨bkx⟩, ⟨bkx⟩, ⟨bkx⟩, ⟨bkx⟩, ⟨blx⟩⟩
    ·rw [if_neg c47] at H
     have c47b0 : decide (30 < a0) = false := decide_eq_false c47
     clear c47
     by_cases c48 : a0 ≤ 26
     ·rw [if_pos c48] at H
      have c48b0 : decide (a0 ≤ 26) = true := decide_eq_true c48
      clear c48
      obtain ⟨y405, hy405⟩ : ∃ y_ : List Int, y_ = (([1, 2, 3, 4, 5] : List Int)) := ⟨_, rfl⟩
      replace H : ((levyref1_alike.f k y402 y405).bind fun t408 => (if t408 = true then (if a0 > 26 then ((levyref1_alike.f k y402 (([1, 2, 4] : List Int))).bind fun t412 => (levyref1_Compare.j0 k a0 (!t412) a1_0 a1_1 a2_0 a2_1)) else (levyref1_Compare.j0 k a0 false a1_0 a1_1 a2_0 a2_1)) else (levyref1_Compare.j0 k a0 true a1_0 a1_1 a2_0 a2_1))) = some (r1, r2) := by first | (rw [hy405]; with_reducible exact H) | (have H2_ := (Option.bind_some _ _).symm.trans H; rw [hy405]; with_reducible exact H2_) | (have H2_ := (Option.bind_some _ _).symm.trans H; with_reducible exact H2_) | with_reducible exact H | (rw [hy405]; exact H) | exact H
      have Ny405 := Aside0.mk hy405
      clear hy405
      replace H := Option.bind_eq_some_iff.mp H
      obtain ⟨t408, A490, H⟩ := H
      replace H : (if t408 = true then (if a0 > 26 then ((levyref1_alike.f k y402 (([1, 2, 4] : List Int))).bind fun t412 => (levyref1_Compare.j0 k a0 (!t412) a1_0 a1_1 a2_0 a2_1)) else (levyref1_Compare.j0 k a0 false a1_0 a1_1 a2_0 a2_1)) else (levyref1_Compare.j0 k a0 true a1_0 a1_1 a2_0 a2_1)) = some (r1, r2) := H
      have A49 := Aside0.mk A490
      clear A490
      by_cases c50 : t408 = true
      ·subst c50
       have H1 : (if a0 > 26 then ((levyref1_alike.f k y402 (([1, 2, 4] : List Int))).bind fun t412 => (levyref1_Compare.j0 k a0 (!t412) a1_0 a1_1 a2_0 a2_1)) else (levyref1_Compare.j0 k a0 false a1_0 a1_1 a2_0 a2_1)) = some (r1, r2) := by rw [if_pos rfl] at H; exact H
       clear H
       have H := H1
       clear H1
       by_cases c51 : a0 > 26
       ·rw [if_pos c51] at H
        have c51b0 : decide (26 < a0) = true := decide_eq_true c51
        clear c51
        obtain ⟨y409, hy409⟩ : ∃ y_ : List Int, y_ = (([1, 2, 4] : List Int)) := ⟨_, rfl⟩
        replace H : ((levyref1_alike.f k y402 y409).bind fun t412 => (levyref1_Compare.j0 k a0 (!t412) a1_0 a1_1 a2_0 a2_1)) = some (r1, r2) := by first | (rw [hy409]; with_reducible exact H) | (have H2_ := (Option.bind_some _ _).symm.trans H; rw [hy409]; with_reducible exact H2_) | (have H2_ := (Option.bind_some _ _).symm.trans H; with_reducible exact H2_) | with_reducible exact H | (rw [hy409]; exact H) | exact H
        have Ny409 := Aside0.mk hy409
        clear hy409
        replace H := Option.bind_eq_some_iff.mp H
        obtain ⟨t412, A520, H⟩ := H
        replace H : (levyref1_Compare.j0 k a0 (!t412) a1_0 a1_1 a2_0 a2_1) = some (r1, r2) := H
        have A52 := Aside0.mk A520
        clear A520
        have H' := Aside0.mk H
        clear H
        go_wp2_with (first | ((with_reducible refine gate_dst (N := 34) rfl ?_); (try (refine gate_guard (by rfl) ?_; dsimp only)); refine Kd.R_lit (Kd.int .i64) _ 3 ?hg (N := 34) ?hd (xs := ([1, 2, 3, 4, 5] : List Int)) (inner := [.int .i64 1, .int .i64 2, .int .i64 3, .int .i64 4, .int .i64 5]) (ok := fun _ => True) (okp := fun _ => True) ?hr ?hp (fun _ hk => hk) trivial (Below.refl _ _) (Nat.le_refl _) (by simp) ?_; (case hd => rfl); (case hg => rfl); (case hr => first | (go_simp; done) | (go_simp; rfl)); (case hp => exact (Reps.one (show Kd.M (Kd.int .i64) _ _ _ 1 [.int .i64 1] from rfl) (Reps.one (show Kd.M (Kd.int .i64) _ _ _ 2 [.int .i64 2] from rfl) (Reps.one (show Kd.M (Kd.int .i64) _ _ _ 3 [.int .i64 3] from rfl) (Reps.one (show Kd.M (Kd.int .i64) _ _ _ 4 [.int .i64 4] from rfl) (Reps.one (show Kd.M (Kd.int .i64) _ _ _ 5 [.int .i64 5] from rfl) (Reps.none _ _))))))); intro v406 w53 ho54 hb hg_ hnew_; clear hg_ hnew_; (first | rw [← Ny405.out] at ho54 | (simp only [Int.reduceToNat] at ho54; rw [← Ny405.out] at ho54)); have n0_ := Aside0.mk (Kd.R_below (by (with_reducible repeat (first | apply Kd.R_alloc | apply Kd.R_drewN | apply Kd.R_drew)); exact HO397.out) hb); have n1_ := Aside0.mk (Kd.R_below (by (with_reducible repeat (first | apply Kd.R_alloc | apply Kd.R_drewN | apply Kd.R_drew)); exact HO404.out) hb); have n2_ := Aside0.mk (Kd.R_lower ho54 (below_size blx)); have n3_ := Aside0.mk (blk_below (g := gb392) (o := .cells #[.int .i64 a1_0, .int .i64 a1_1] 23 (0, 0)) bkx hb); have n4_ := Aside0.mk (blk_below (g := gb393) (o := .cells #[.int .i64 a2_0, .int .i64 a2_1] 23 (0, 0)) bkx hb); have n5_ := Aside0.mk (blk_below (g := gb394) (o := .cells #[.int .i64 0, .int .i64 0] 23 (0, 0)) bkx hb); have n6_ := Aside0.mk (blk_below (g := gb401) (o := .cells #[.int .i64 t398, .int .i64 t399] 23 (0, 0)) bkx hb); have n7_ := Aside0.mk (below_step blx hb); clear HO397; clear HO404; clear BK392; clear BK393; clear BK394; clear BK401; clear HB; have HO397 := n0_; have HO404 := n1_; have HO407 := n2_; have BK392 := n3_; have BK393 := n4_; have BK394 := n5_; have BK401 := n6_; have HB := n7_; clear n0_ n1_ n2_ n3_ n4_ n5_ n6_ n7_; clear hb ho54; obtain ⟨Ao55, co55, eo55⟩ := Kd.R_slice HO404.out; subst eo55; obtain ⟨Ao56, co56, eo56⟩ := Kd.R_slice HO407.out; subst eo56) | (go_at_call 64; (with_reducible refine (levyref1_alike.calls k _ _ y402 _ _ y405 true _ ?side1 ?side2 ?side3 ?side4 A49.out).mono ?_); (case side1 => repeat (first | exact (Kd.R_reads' HO404.out).2.2 | (with_reducible refine Kd.C_alloc ?_ _) | (with_reducible refine Kd.C_drewN ?_ _) | (with_reducible refine Kd.C_drew ?_))); (case side2 => exact (Kd.R_reads' HO404.out).2.1); (case side3 => repeat (first | exact (Kd.R_reads' HO407.out).2.2 | (with_reducible refine Kd.C_alloc ?_ _) | (with_reducible refine Kd.C_drewN ?_ _) | (with_reducible refine Kd.C_drew ?_))); (case side4 => exact (Kd.R_reads' HO407.out).2.1); rintro e w' ⟨rfl, ⟨nd, rfl⟩⟩) | ((with_reducible refine gate_dst (N := 44) rfl ?_); (try (refine gate_guard (by rfl) ?_; dsimp only)); refine Kd.R_lit (Kd.int .i64) _ 3 ?hg (N := 44) ?hd (xs := ([1, 2, 4] : List Int)) (inner := [.int .i64 1, .int .i64 2, .int .i64 4]) (ok := fun _ => True) (okp := fun _ => True) ?hr ?hp (fun _ hk => hk) trivial (Below.refl _ _) (Nat.le_refl _) (by simp) ?_; (case hd => rfl); (case hg => rfl); (case hr => first | (go_simp; done) | (go_simp; rfl)); (case hp => exact (Reps.one (show Kd.M (Kd.int .i64) _ _ _ 1 [.int .i64 1] from rfl) (Reps.one (show Kd.M (Kd.int .i64) _ _ _ 2 [.int .i64 2] from rfl) (Reps.one (show Kd.M (Kd.int .i64) _ _ _ 4 [.int .i64 4] from rfl) (Reps.none _ _))))); intro v410 w57 ho58 hb hg_ hnew_; clear hg_ hnew_; (first | rw [← Ny409.out] at ho58 | (simp only [Int.reduceToNat] at ho58; rw [← Ny409.out] at ho58)); have n0_ := Aside0.mk (Kd.R_below (by (with_reducible repeat (first | apply Kd.R_alloc | apply Kd.R_drewN | apply Kd.R_drew)); exact HO397.out) hb); have n1_ := Aside0.mk (Kd.R_below (by (with_reducible repeat (first | apply Kd.R_alloc | apply Kd.R_drewN | apply Kd.R_drew)); exact HO404.out) hb); have n2_ := Aside0.mk (Kd.R_elder' (by (with_reducible repeat (first | apply Kd.R_alloc | apply Kd.R_drewN | apply Kd.R_drew)); exact HO407.out) (Kd.R_base ho58) hb); have n3_ := Aside0.mk (Kd.R_lower (Kd.R_new' ho58 (Kd.R_lt (by (with_reducible repeat (first | apply Kd.R_alloc | apply Kd.R_drewN | apply Kd.R_drew)); exact HO407.out))) (below_size blx)); have n4_ := Aside0.mk (blk_below (g := gb392) (o := .cells #[.int .i64 a1_0, .int .i64 a1_1] 23 (0, 0)) bkx hb); have n5_ := Aside0.mk (blk_below (g := gb393) (o := .cells #[.int .i64 a2_0, .int .i64 a2_1] 23 (0, 0)) bkx hb); have n6_ := Aside0.mk (blk_below (g := gb394) (o := .cells #[.int .i64 0, .int .i64 0] 23 (0, 0)) bkx hb); have n7_ := Aside0.mk (blk_below (g := gb401) (o := .cells #[.int .i64 t398, .int .i64 t399] 23 (0, 0)) bkx hb); have n8_ := Aside0.mk (below_step blx hb); clear HO397; clear HO404; clear HO407; clear BK392; clear BK393; clear BK394; clear BK401; clear HB; have HO397 := n0_; have HO404 := n1_; have HO407 := n2_; have HO411 := n3_; have BK392 := n4_; have BK393 := n5_; have BK394 := n6_; have BK401 := n7_; have HB := n8_; clear n0_ n1_ n2_ n3_ n4_ n5_ n6_ n7_ n8_; clear hb ho58; obtain ⟨Ao59, co59, eo59⟩ := Kd.R_slice HO411.out; subst eo59) | (go_at_call 64; (with_reducible refine (levyref1_alike.calls k _ _ y402 _ _ y409 t412 _ ?side1 ?side2 ?side3 ?side4 A52.out).mono ?_); (case side1 => repeat (first | exact (Kd.R_reads' HO404.out).2.2 | (with_reducible refine Kd.C_alloc ?_ _) | (with_reducible refine Kd.C_drewN ?_ _) | (with_reducible refine Kd.C_drew ?_))); (case side2 => exact (Kd.R_reads' HO404.out).2.1); (case side3 => repeat (first | exact (Kd.R_reads' HO411.out).2.2 | (with_reducible refine Kd.C_alloc ?_ _) | (with_reducible refine Kd.C_drewN ?_ _) | (with_reducible refine Kd.C_drew ?_))); (case side4 => exact (Kd.R_reads' HO411.out).2.1); rintro e w' ⟨rfl, ⟨nd, rfl⟩⟩))
        go_meet
        case rel => exact ⟨_, (!t412), (by first | rfl | (simp; done) | (simp [*]; done)), H', ⟨by first | omega | exact Nat.le_refl _⟩, ⟨bkx⟩, ⟨bkx⟩, ⟨bkx⟩, ⟨bkx⟩, ⟨blx⟩⟩
       ·rw [if_neg c51] at H
        have c51b0 : decide (26 < a0) = false := decide_eq_false c51
        clear c51
        have H' := Aside0.mk H
        clear H
        go_wp2_with (first | ((with_reducible refine gate_dst (N := 34) rfl ?_); (try (refine gate_guard (by rfl) ?_; dsimp only)); refine Kd.R_lit (Kd.int .i64) _ 3 ?hg (N := 34) ?hd (xs := ([1, 2, 3, 4, 5] : List Int)) (inner := [.int .i64 1, .int .i64 2, .int .i64 3, .int .i64 4, .int .i64 5]) (ok := fun _ => True) (okp := fun _ => True) ?hr ?hp (fun _ hk => hk) trivial (Below.refl _ _) (Nat.le_refl _) (by simp) ?_; (case hd => rfl); (case hg => rfl); (case hr => first | (go_simp; done) | (go_simp; rfl)); (case hp => exact (Reps.one (show Kd.M (Kd.int .i64) _ _ _ 1 [.int .i64 1] from rfl) (Reps.one (show Kd.M (Kd.int .i64) _ _ _ 2 [.int .i64 2] from rfl) (Reps.one (show Kd.M (Kd.int .i64) _ _ _ 3 [.int .i64 3] from rfl) (Reps.one (show Kd.M (Kd.int .i64) _ _ _ 4 [.int .i64 4] from rfl) (Reps.one (show Kd.M (Kd.int .i64) _ _ _ 5 [.int .i64 5] from rfl) (Reps.none _ _))))))); intro v406 w60 ho61 hb hg_ hnew_; clear hg_ hnew_; (first | rw [← Ny405.out] at ho61 | (simp only [Int.reduceToNat] at ho61; rw [← Ny405.out] at ho61)); have n0_ := Aside0.mk (Kd.R_below (by (with_reducible repeat (first | apply Kd.R_alloc | apply Kd.R_drewN | apply Kd.R_drew)); exact HO397.out) hb); have n1_ := Aside0.mk (Kd.R_below (by (with_reducible repeat (first | apply Kd.R_alloc | apply Kd.R_drewN | apply Kd.R_drew)); exact HO404.out) hb); have n2_ := Aside0.mk (Kd.R_lower ho61 (below_size blx)); have n3_ := Aside0.mk (blk_below (g := gb392) (o := .cells #[.int .i64 a1_0, .int .i64 a1_1] 23 (0, 0)) bkx hb); have n4_ := Aside0.mk (blk_below (g := gb393) (o := .cells #[.int .i64 a2_0, .int .i64 a2_1] 23 (0, 0)) bkx hb); have n5_ := Aside0.mk (blk_below (g := gb394) (o := .cells #[.int .i64 0, .int .i64 0] 23 (0, 0)) bkx hb); have n6_ := Aside0.mk (blk_below (g := gb401) (o := .cells #[.int .i64 t398, .int .i64 t399] 23 (0, 0)) bkx hb); have n7_ := Aside0.mk (below_step blx hb); clear HO397; clear HO404; clear BK392; clear BK393; clear BK394; clear BK401; clear HB; have HO397 := n0_; have HO404 := n1_; have HO407 := n2_; have BK392 := n3_; have BK393 := n4_; have BK394 := n5_; have BK401 := n6_; have HB := n7_; clear n0_ n1_ n2_ n3_ n4_ n5_ n6_ n7_; clear hb ho61; obtain ⟨Ao62, co62, eo62⟩ := Kd.R_slice HO404.out; subst eo62; obtain ⟨Ao63, co63, eo63⟩ := Kd.R_slice HO407.out; subst eo63) | (go_at_call 64; (with_reducible refine (levyref1_alike.calls k _ _ y402 _ _ y405 true _ ?side1 ?side2 ?side3 ?side4 A49.out).mono ?_); (case side1 => repeat (first | exact (Kd.R_reads' HO404.out).2.2 | (with_reducible refine Kd.C_alloc ?_ _) | (with_reducible refine Kd.C_drewN ?_ _) | (with_reducible refine Kd.C_drew ?_))); (case side2 => exact (Kd.R_reads' HO404.out).2.1); (case side3 => repeat (first | exact (Kd.R_reads' HO407.out).2.2 | (with_reducible refine Kd.C_alloc ?_ _) | (with_reducible refine Kd.C_drewN ?_ _) | (with_reducible refine Kd.C_drew ?_))); (case side4 => exact (Kd.R_reads' HO407.out).2.1); rintro e w' ⟨rfl, ⟨nd, rfl⟩⟩))
        go_meet
        case rel => exact ⟨_, (false), (by first | rfl | (simp; done) | (simp [*]; done)), H', ⟨by first | omega | exact Nat.le_refl _⟩, ⟨bkx⟩, ⟨bkx⟩, ⟨bkx⟩, ⟨bkx⟩, ⟨blx⟩⟩
      ·replace c50 := Bool.eq_false_iff.mpr c50
       subst c50
       have H1 : (levyref1_Compare.j0 k a0 true a1_0 a1_1 a2_0 a2_1) = some (r1, r2) := by rw [if_neg (show ¬ (false = true) by decide)] at H; exact H
       clear H
       have H := H1
       clear H1
       have H' := Aside0.mk H
       clear H
       go_wp2_with (first | ((with_reducible refine gate_dst (N := 34) rfl ?_); (try (refine gate_guard (by rfl) ?_; dsimp only)); refine Kd.R_lit (Kd.int .i64) _ 3 ?hg (N := 34) ?hd (xs := ([1, 2, 3, 4, 5] : List Int)) (inner := [.int .i64 1, .int .i64 2, .int .i64 3, .int .i64 4, .int .i64 5]) (ok := fun _ => True) (okp := fun _ => True) ?hr ?hp (fun _ hk => hk) trivial (Below.refl _ _) (Nat.le_refl _) (by simp) ?_; (case hd => rfl); (case hg => rfl); (case hr => first | (go_simp; done) | (go_simp; rfl)); (case hp => exact (Reps.one (show Kd.M (Kd.int .i64) _ _ _ 1 [.int .i64 1] from rfl) (Reps.one (show Kd.M (Kd.int .i64) _ _ _ 2 [.int .i64 2] from rfl) (Reps.one (show Kd.M (Kd.int .i64) _ _ _ 3 [.int .i64 3] from rfl) (Reps.one (show Kd.M (Kd.int .i64) _ _ _ 4 [.int .i64 4] from rfl) (Reps.one (show Kd.M (Kd.int .i64) _ _ _ 5 [.int .i64 5] from rfl) (Reps.none _ _))))))); intro v406 w64 ho65 hb hg_ hnew_; clear hg_ hnew_; (first | rw [← Ny405.out] at ho65 | (simp only [Int.reduceToNat] at ho65; rw [← Ny405.out] at ho65)); have n0_ := Aside0.mk (Kd.R_below (by (with_reducible repeat (first | apply Kd.R_alloc | apply Kd.R_drewN | apply Kd.R_drew)); exact HO397.out) hb); have n1_ := Aside0.mk (Kd.R_below (by (with_reducible repeat (first | apply Kd.R_alloc | apply Kd.R_drewN | apply Kd.R_drew)); exact HO404.out) hb); have n2_ := Aside0.mk (Kd.R_lower ho65 (below_size blx)); have n3_ := Aside0.mk (blk_below (g := gb392) (o := .cells #[.int .i64 a1_0, .int .i64 a1_1] 23 (0, 0)) bkx hb); have n4_ := Aside0.mk (blk_below (g := gb393) (o := .cells #[.int .i64 a2_0, .int .i64 a2_1] 23 (0, 0)) bkx hb); have n5_ := Aside0.mk (blk_below (g := gb394) (o := .cells #[.int .i64 0, .int .i64 0] 23 (0, 0)) bkx hb); have n6_ := Aside0.mk (blk_below (g := gb401) (o := .cells #[.int .i64 t398, .int .i64 t399] 23 (0, 0)) bkx hb); have n7_ := Aside0.mk (below_step blx hb); clear HO397; clear HO404; clear BK392; clear BK393; clear BK394; clear BK401; clear HB; have HO397 := n0_; have HO404 := n1_; have HO407 := n2_; have BK392 := n3_; have BK393 := n4_; have BK394 := n5_; have BK401 := n6_; have HB := n7_; clear n0_ n1_ n2_ n3_ n4_ n5_ n6_ n7_; clear hb ho65; obtain ⟨Ao66, co66, eo66⟩ := Kd.R_slice HO404.out; subst eo66; obtain ⟨Ao67, co67, eo67⟩ := Kd.R_slice HO407.out; subst eo67) | (go_at_call 64; (with_reducible refine (levyref1_alike.calls k _ _ y402 _ _ y405 false _ ?side1 ?side2 ?side3 ?side4 A49.out).mono ?_); (case side1 => repeat (first | exact (Kd.R_reads' HO404.out).2.2 | (with_reducible refine Kd.C_alloc ?_ _) | (with_reducible refine Kd.C_drewN ?_ _) | (with_reducible refine Kd.C_drew ?_))); (case side2 => exact (Kd.R_reads' HO404.out).2.1); (case side3 => repeat (first | exact (Kd.R_reads' HO407.out).2.2 | (with_reducible refine Kd.C_alloc ?_ _) | (with_reducible refine Kd.C_drewN ?_ _) | (with_reducible refine Kd.C_drew ?_))); (case side4 => exact (Kd.R_reads' HO407.out).2.1); rintro e w' ⟨rfl, ⟨nd, rfl⟩⟩))
       go_meet
       case rel => exact ⟨_, (true), (by first | rfl | (simp; done) | (simp [*]; done)), H', ⟨by first | omega | exact Nat.le_refl _⟩, ⟨bkx⟩, ⟨bkx⟩, ⟨bkx⟩, ⟨bkx⟩, ⟨blx⟩⟩
     ·rw [if_neg c48] at H
      have c48b0 : decide (a0 ≤ 26) = false := decide_eq_false c48
      clear c48
      by_cases c68 : a0 > 26
      ·rw [if_pos c68] at H
       have c68b0 : decide (26 < a0) = true := decide_eq_true c68
       clear c68
       obtain ⟨y413, hy413⟩ : ∃ y_ : List Int, y_ = (([1, 2, 4] : List Int)) := ⟨_, rfl⟩
       replace H : ((levyref1_alike.f k y402 y413).bind fun t416 => (levyref1_Compare.j0 k a0 (!t416) a1_0 a1_1 a2_0 a2_1)) = some (r1, r2) := by first | (rw [hy413]; with_reducible exact H) | (have H2_ := (Option.bind_some _ _).symm.trans H; rw [hy413]; with_reducible exact H2_) | (have H2_ := (Option.bind_some _ _).symm.trans H; with_reducible exact H2_) | with_reducible exact H | (rw [hy413]; exact H) | exact H
       have Ny413 := Aside0.mk hy413
       clear hy413
       replace H := Option.bind_eq_some_iff.mp H
       obtain ⟨t416, A690, H⟩ := H
       replace H : (levyref1_Compare.j0 k a0 (!t416) a1_0 a1_1 a2_0 a2_1) = some (r1, r2) := H
       have A69 := Aside0.mk A690
       clear A690
       have H' := Aside0.mk H
       clear H
       go_wp2_with (first | ((with_reducible refine gate_dst (N := 44) rfl ?_); (try (refine gate_guard (by rfl) ?_; dsimp only)); refine Kd.R_lit (Kd.int .i64) _ 3 ?hg (N := 44) ?hd (xs := ([1, 2, 4] : List Int)) (inner := [.int .i64 1, .int .i64 2, .int .i64 4]) (ok := fun _ => True) (okp := fun _ => True) ?hr ?hp (fun _ hk => hk) trivial (Below.refl _ _) (Nat.le_refl _) (by simp) ?_; (case hd => rfl); (case hg => rfl); (case hr => first | (go_simp; done) | (go_simp; rfl)); (case hp => exact (Reps.one (show Kd.M (Kd.int .i64) _ _ _ 1 [.int .i64 1] from rfl) (Reps.one (show Kd.M (Kd.int .i64) _ _ _ 2 [.int .i64 2] from rfl) (Reps.one (show Kd.M (Kd.int .i64) _ _ _ 4 [.int .i64 4] from rfl) (Reps.none _ _))))); intro v414 w70 ho71 hb hg_ hnew_; clear hg_ hnew_; (first | rw [← Ny413.out] at ho71 | (simp only [Int.reduceToNat] at ho71; rw [← Ny413.out] at ho71)); have n0_ := Aside0.mk (Kd.R_below (by (with_reducible repeat (first | apply Kd.R_alloc | apply Kd.R_drewN | apply Kd.R_drew)); exact HO397.out) hb); have n1_ := Aside0.mk (Kd.R_below (by (with_reducible repeat (first | apply Kd.R_alloc | apply Kd.R_drewN | apply Kd.R_drew)); exact HO404.out) hb); have n2_ := Aside0.mk (Kd.R_lower ho71 (below_size blx)); have n3_ := Aside0.mk (blk_below (g := gb392) (o := .cells #[.int .i64 a1_0, .int .i64 a1_1] 23 (0, 0)) bkx hb); have n4_ := Aside0.mk (blk_below (g := gb393) (o := .cells #[.int .i64 a2_0, .int .i64 a2_1] 23 (0, 0)) bkx hb); have n5_ := Aside0.mk (blk_below (g := gb394) (o := .cells #[.int .i64 0, .int .i64 0] 23 (0, 0)) bkx hb); have n6_ := Aside0.mk (blk_below (g := gb401) (o := .cells #[.int .i64 t398, .int .i64 t399] 23 (0, 0)) bkx hb); have n7_ := Aside0.mk (below_step blx hb); clear HO397; clear HO404; clear BK392; clear BK393; clear BK394; clear BK401; clear HB; have HO397 := n0_; have HO404 := n1_; have HO415 := n2_; have BK392 := n3_; have BK393 := n4_; have BK394 := n5_; have BK401 := n6_; have HB := n7_; clear n0_ n1_ n2_ n3_ n4_ n5_ n6_ n7_; clear hb ho71; obtain ⟨Ao72, co72, eo72⟩ := Kd.R_slice HO404.out; subst eo72; obtain ⟨Ao73, co73, eo73⟩ := Kd.R_slice HO415.out; subst eo73) | (go_at_call 64; (with_reducible refine (levyref1_alike.calls k _ _ y402 _ _ y413 t416 _ ?side1 ?side2 ?side3 ?side4 A69.out).mono ?_); (case side1 => repeat (first | exact (Kd.R_reads' HO404.out).2.2 | (with_reducible refine Kd.C_alloc ?_ _) | (with_reducible refine Kd.C_drewN ?_ _) | (with_reducible refine Kd.C_drew ?_))); (case side2 => exact (Kd.R_reads' HO404.out).2.1); (case side3 => repeat (first | exact (Kd.R_reads' HO415.out).2.2 | (with_reducible refine Kd.C_alloc ?_ _) | (with_reducible refine Kd.C_drewN ?_ _) | (with_reducible refine Kd.C_drew ?_))); (case side4 => exact (Kd.R_reads' HO415.out).2.1); rintro e w' ⟨rfl, ⟨nd, rfl⟩⟩))
       go_meet
       case rel => exact ⟨_, (!t416), (by first | rfl | (simp; done) | (simp [*]; done)), H', ⟨by first | omega | exact Nat.le_refl _⟩, ⟨bkx⟩, ⟨bkx⟩, ⟨bkx⟩, ⟨bkx⟩, ⟨blx⟩⟩
      ·rw [if_neg c68] at H
       have c68b0 : decide (26 < a0) = false := decide_eq_false c68
       clear c68
       have H' := Aside0.mk H
       clear H
       go_wp2
       go_meet
       case rel => exact ⟨_, (false), (by first | rfl | (simp; done) | (simp [*]; done)), H', ⟨by first | omega | exact Nat.le_refl _⟩, ⟨bkx⟩, ⟨bkx⟩, ⟨bkx⟩, ⟨bkx⟩, ⟨blx⟩⟩
  case rest =>
   clear HC24
   try clear c1
   try clear c2
   try clear p2
   try clear c3
   try clear c4
   try clear c5
   try clear c6
   try clear c9
   try clear c10
   try clear c12
   try clear c19
   try clear c20
   try clear c21
   try clear c28
   try clear c29
   try clear c31
   try clear c38
   try clear c39
   try clear c40
   try clear c46
   try clear c46b0
   try clear c47
   try clear c47b0
   try clear c48
   try clear c48b0
   try clear c50
   try clear c51
   try clear c51b0
   try clear c63
   try clear c68
   try clear c68b0
   try clear hcz11_0
   try clear hcz11_1
   try clear hcz13_0
   try clear hcz13_1
   try clear hcz22_0
   try clear hcz22_1
   try clear hcz23_0
   try clear hcz23_1
   try clear hcz30_0
   try clear hcz30_1
   try clear hcz32_0
   try clear hcz32_1
   try clear hcz41_0
   try clear hcz41_1
   try clear hcz42_0
   try clear hcz42_1
   try clear hcz43_0
   try clear hcz43_1
   try clear hfz11_0
   try clear hfz11_1
   try clear hfz13_0
   try clear hfz13_1
   try clear hfz22_0
   try clear hfz22_1
   try clear hfz23_0
   try clear hfz23_1
   try clear hfz30_0
   try clear hfz30_1
   try clear hfz32_0
   try clear hfz32_1
   try clear hfz41_0
   try clear hfz41_1
   try clear hfz42_0
   try clear hfz42_1
   try clear hfz43_0
   try clear hfz43_1
   obtain ⟨kq, x48_23, rfl, HA, HJ23, BK392, BK393, BK394, BK401, HB⟩ := hcut
   cases kq with
   | zero => exact absurd HA.out (by simp [levyref1_Compare.j0])
   | succ kj23 =>
    have H := HA.out
    clear HA
    simp only [levyref1_Compare.j0] at H
    by_cases c74 : x48_23 = true
    ·subst c74
     have H1 : ((levyref1_bad.f 5).bind fun bt417 => (some (bt417.1, bt417.2))) = some (r1, r2) := by rw [if_pos rfl] at H; exact H
     clear H
     have H := H1
     clear H1
     replace H := Option.bind_eq_some_iff.mp H
     obtain ⟨⟨t417, t418⟩, A750, H⟩ := H
     replace H : (some (t417, t418)) = some (r1, r2) := H
     have A75 := Aside0.mk A750
     clear A750
     simp only [Option.some.injEq, Prod.mk.injEq] at H
     obtain ⟨rfl, rfl⟩ := H
     go_wp2_with (first | ((with_reducible refine gate_callee (f := 57) rfl ?_); refine goesL_ (some 49) rfl rfl Tryd.func57 (by kernel_rfl) rfl #[.int .i64 5] rfl agx ?_; (with_reducible refine (levyref1_bad.calls 5 t417 t418 _ A75.out).mono ?_); rintro e w76 ⟨rfl, hb⟩; refine ⟨_, rfl, ?_⟩; have n0_ := Aside0.mk (blk_below (g := gb392) (o := .cells #[.int .i64 a1_0, .int .i64 a1_1] 23 (0, 0)) bkx hb); have n1_ := Aside0.mk (blk_below (g := gb393) (o := .cells #[.int .i64 a2_0, .int .i64 a2_1] 23 (0, 0)) bkx hb); have n2_ := Aside0.mk (blk_below (g := gb394) (o := .cells #[.int .i64 0, .int .i64 0] 23 (0, 0)) bkx hb); have n3_ := Aside0.mk (blk_below (g := gb401) (o := .cells #[.int .i64 t398, .int .i64 t399] 23 (0, 0)) bkx hb); have n4_ := Aside0.mk (below_step blx hb); clear BK392; clear BK393; clear BK394; clear BK401; clear HB; have BK392 := n0_; have BK393 := n1_; have BK394 := n2_; have BK401 := n3_; have HB := n4_; clear n0_ n1_ n2_ n3_ n4_; (try clear hb); (try clear hb2); (try clear hk); (try clear hi); have hnb77 := NB394_392.out; have hnc77 := NB392_394.out; have hnb78 := NB394_393.out; have hnc78 := NB393_394.out; have hnb79 := NB394_401.out; have hnc79 := NB401_394.out; have hcz80_0 : w76.cell? ⟨gb394, 0, none⟩ = some (.int .i64 0) := (blk_cell BK394.out 0).trans rfl; have hcz80_1 : w76.cell? ⟨gb394, 1, none⟩ = some (.int .i64 0) := (blk_cell BK394.out 1).trans rfl; have hfz80_0 := blk_frozen BK394.out 0; have hfz80_1 := blk_frozen BK394.out 1))
     refine bodyPost_ret (results_cell_row rfl _ _ gb394 23 #[.int .i64 t417, .int .i64 t418] (0, 0) _ rfl (by (with_reducible repeat (first | refine blk_drewN ?_ _ | refine blk_drew ?_ | refine blk_alloc ?_ _)); refine blk_put (cs := #[.int .i64 t417, .int .i64 0]) ?_ 1 _ rfl; (with_reducible repeat (first | refine blk_drewN ?_ _ | refine blk_drew ?_ | refine blk_alloc ?_ _)); refine blk_put (cs := #[.int .i64 0, .int .i64 0]) ?_ 0 _ rfl; (with_reducible repeat (first | refine blk_drewN ?_ _ | refine blk_drew ?_ | refine blk_alloc ?_ _)); exact BK394.out) Tryd.underlying23 rfl (by kernel_rfl)) rfl ?_
     exact ⟨by first | rfl | (simp [errW_none, errW_some] <;> rfl) | (simp [*, errW_none, errW_some] <;> rfl), blx⟩
    ·replace c74 := Bool.eq_false_iff.mpr c74
     subst c74
     have H1 : (if a0 = 25 then (if a1_1 = a2_1 then (some (3, 1)) else (some (3, 0))) else (if a0 = 26 then (if a1_1 = a2_1 then (some (3, 0)) else (some (3, 1))) else (if a0 = 27 then (if a1_1 < a2_1 then (some (3, 1)) else (some (3, 0))) else (if a0 = 28 then (if a1_1 ≤ a2_1 then (some (3, 1)) else (some (3, 0))) else (if a0 = 29 then (if a1_1 > a2_1 then (some (3, 1)) else (some (3, 0))) else (if a0 = 30 then (if a1_1 ≥ a2_1 then (some (3, 1)) else (some (3, 0))) else (some (3, 0)))))))) = some (r1, r2) := by rw [if_neg (show ¬ (false = true) by decide)] at H; exact H
     clear H
     have H := H1
     clear H1
     by_cases c81 : a0 = 25
     ·rw [if_pos c81] at H
      have c81b0 : (a0 == 25) = true := beq_iff_eq.mpr c81
      have c81b1 : (a0 != 25) = false := bne_eq_false_iff_eq.mpr c81
      clear c81
      by_cases c82 : a1_1 = a2_1
      ·rw [if_pos c82] at H
       have c82b0 : (a1_1 == a2_1) = true := beq_iff_eq.mpr c82
       have c82b1 : (a1_1 != a2_1) = false := bne_eq_false_iff_eq.mpr c82
       clear c82
       simp only [Option.some.injEq, Prod.mk.injEq] at H
       obtain ⟨rfl, rfl⟩ := H
       have hnb83 := NB392_393.out
       have hnc83 := NB393_392.out
       have hnb84 := NB392_394.out
       have hnc84 := NB394_392.out
       have hnb85 := NB392_401.out
       have hnc85 := NB401_392.out
       have hcz86_0 : wc.cell? ⟨gb392, 0, none⟩ = some (.int .i64 a1_0) := (blk_cell BK392.out 0).trans rfl
       have hcz86_1 : wc.cell? ⟨gb392, 1, none⟩ = some (.int .i64 a1_1) := (blk_cell BK392.out 1).trans rfl
       have hfz86_0 := blk_frozen BK392.out 0
       have hfz86_1 := blk_frozen BK392.out 1
       have hnb87 := NB393_394.out
       have hnc87 := NB394_393.out
       have hnb88 := NB393_401.out
       have hnc88 := NB401_393.out
       have hcz89_0 : wc.cell? ⟨gb393, 0, none⟩ = some (.int .i64 a2_0) := (blk_cell BK393.out 0).trans rfl
       have hcz89_1 : wc.cell? ⟨gb393, 1, none⟩ = some (.int .i64 a2_1) := (blk_cell BK393.out 1).trans rfl
       have hfz89_0 := blk_frozen BK393.out 0
       have hfz89_1 := blk_frozen BK393.out 1
       have hnb90 := NB394_401.out
       have hnc90 := NB401_394.out
       have hcz91_0 : wc.cell? ⟨gb394, 0, none⟩ = some (.int .i64 0) := (blk_cell BK394.out 0).trans rfl
       have hcz91_1 : wc.cell? ⟨gb394, 1, none⟩ = some (.int .i64 0) := (blk_cell BK394.out 1).trans rfl
       have hfz91_0 := blk_frozen BK394.out 0
       have hfz91_1 := blk_frozen BK394.out 1
       go_wp2
       refine bodyPost_ret (results_cell_row rfl _ _ gb394 23 #[.int .i64 3, .int .i64 1] (0, 0) _ rfl (by (with_reducible repeat (first | refine blk_drewN ?_ _ | refine blk_drew ?_ | refine blk_alloc ?_ _)); refine blk_put (cs := #[.int .i64 3, .int .i64 0]) ?_ 1 _ rfl; (with_reducible repeat (first | refine blk_drewN ?_ _ | refine blk_drew ?_ | refine blk_alloc ?_ _)); refine blk_put (cs := #[.int .i64 0, .int .i64 0]) ?_ 0 _ rfl; (with_reducible repeat (first | refine blk_drewN ?_ _ | refine blk_drew ?_ | refine blk_alloc ?_ _)); exact BK394.out) Tryd.underlying23 rfl (by kernel_rfl)) rfl ?_
       exact ⟨by first | rfl | (simp [errW_none, errW_some] <;> rfl) | (simp [*, errW_none, errW_some] <;> rfl), blx⟩
      ·rw [if_neg c82] at H
       have c82b0 : (a1_1 == a2_1) = false := beq_eq_false_iff_ne.mpr c82
       have c82b1 : (a1_1 != a2_1) = true := bne_iff_ne.mpr c82
       simp only [Option.some.injEq, Prod.mk.injEq] at H
       obtain ⟨rfl, rfl⟩ := H
       have hnb92 := NB392_393.out
       have hnc92 := NB393_392.out
       have hnb93 := NB392_394.out
       have hnc93 := NB394_392.out
       have hnb94 := NB392_401.out
       have hnc94 := NB401_392.out
       have hcz95_0 : wc.cell? ⟨gb392, 0, none⟩ = some (.int .i64 a1_0) := (blk_cell BK392.out 0).trans rfl
       have hcz95_1 : wc.cell? ⟨gb392, 1, none⟩ = some (.int .i64 a1_1) := (blk_cell BK392.out 1).trans rfl
       have hfz95_0 := blk_frozen BK392.out 0
       have hfz95_1 := blk_frozen BK392.out 1
       have hnb96 := NB393_394.out
       have hnc96 := NB394_393.out
       have hnb97 := NB393_401.out
       have hnc97 := NB401_393.out
       have hcz98_0 : wc.cell? ⟨gb393, 0, none⟩ = some (.int .i64 a2_0) := (blk_cell BK393.out 0).trans rfl
       have hcz98_1 : wc.cell? ⟨gb393, 1, none⟩ = some (.int .i64 a2_1) := (blk_cell BK393.out 1).trans rfl
       have hfz98_0 := blk_frozen BK393.out 0
       have hfz98_1 := blk_frozen BK393.out 1
       have hnb99 := NB394_401.out
       have hnc99 := NB401_394.out
       have hcz100_0 : wc.cell? ⟨gb394, 0, none⟩ = some (.int .i64 0) := (blk_cell BK394.out 0).trans rfl
       have hcz100_1 : wc.cell? ⟨gb394, 1, none⟩ = some (.int .i64 0) := (blk_cell BK394.out 1).trans rfl
       have hfz100_0 := blk_frozen BK394.out 0
       have hfz100_1 := blk_frozen BK394.out 1
       go_wp2
       refine bodyPost_ret (results_cell_row rfl _ _ gb394 23 #[.int .i64 3, .int .i64 0] (0, 0) _ rfl (by (with_reducible repeat (first | refine blk_drewN ?_ _ | refine blk_drew ?_ | refine blk_alloc ?_ _)); refine blk_put (cs := #[.int .i64 3, .int .i64 0]) ?_ 1 _ rfl; (with_reducible repeat (first | refine blk_drewN ?_ _ | refine blk_drew ?_ | refine blk_alloc ?_ _)); refine blk_put (cs := #[.int .i64 0, .int .i64 0]) ?_ 0 _ rfl; (with_reducible repeat (first | refine blk_drewN ?_ _ | refine blk_drew ?_ | refine blk_alloc ?_ _)); exact BK394.out) Tryd.underlying23 rfl (by kernel_rfl)) rfl ?_
       exact ⟨by first | rfl | (simp [errW_none, errW_some] <;> rfl) | (simp [*, errW_none, errW_some] <;> rfl), blx⟩
     ·rw [if_neg c81] at H
      have c81b0 : (a0 == 25) = false := beq_eq_false_iff_ne.mpr c81
      have c81b1 : (a0 != 25) = true := bne_iff_ne.mpr c81
      by_cases c101 : a0 = 26
      ·rw [if_pos c101] at H
       have c101b0 : (a0 == 26) = true := beq_iff_eq.mpr c101
       have c101b1 : (a0 != 26) = false := bne_eq_false_iff_eq.mpr c101
       clear c101
       by_cases c102 : a1_1 = a2_1
       ·rw [if_pos c102] at H
        have c102b0 : (a1_1 == a2_1) = true := beq_iff_eq.mpr c102
        have c102b1 : (a1_1 != a2_1) = false := bne_eq_false_iff_eq.mpr c102
        clear c102
        simp only [Option.some.injEq, Prod.mk.injEq] at H
        obtain ⟨rfl, rfl⟩ := H
        have hnb103 := NB392_393.out
        have hnc103 := NB393_392.out
        have hnb104 := NB392_394.out
        have hnc104 := NB394_392.out
        have hnb105 := NB392_401.out
        have hnc105 := NB401_392.out
        have hcz106_0 : wc.cell? ⟨gb392, 0, none⟩ = some (.int .i64 a1_0) := (blk_cell BK392.out 0).trans rfl
        have hcz106_1 : wc.cell? ⟨gb392, 1, none⟩ = some (.int .i64 a1_1) := (blk_cell BK392.out 1).trans rfl
        have hfz106_0 := blk_frozen BK392.out 0
        have hfz106_1 := blk_frozen BK392.out 1
        have hnb107 := NB393_394.out
        have hnc107 := NB394_393.out
        have hnb108 := NB393_401.out
        have hnc108 := NB401_393.out
        have hcz109_0 : wc.cell? ⟨gb393, 0, none⟩ = some (.int .i64 a2_0) := (blk_cell BK393.out 0).trans rfl
        have hcz109_1 : wc.cell? ⟨gb393, 1, none⟩ = some (.int .i64 a2_1) := (blk_cell BK393.out 1).trans rfl
        have hfz109_0 := blk_frozen BK393.out 0
        have hfz109_1 := blk_frozen BK393.out 1
        have hnb110 := NB394_401.out
        have hnc110 := NB401_394.out
        have hcz111_0 : wc.cell? ⟨gb394, 0, none⟩ = some (.int .i64 0) := (blk_cell BK394.out 0).trans rfl
        have hcz111_1 : wc.cell? ⟨gb394, 1, none⟩ = some (.int .i64 0) := (blk_cell BK394.out 1).trans rfl
        have hfz111_0 := blk_frozen BK394.out 0
        have hfz111_1 := blk_frozen BK394.out 1
        go_wp2
        refine bodyPost_ret (results_cell_row rfl _ _ gb394 23 #[.int .i64 3, .int .i64 0] (0, 0) _ rfl (by (with_reducible repeat (first | refine blk_drewN ?_ _ | refine blk_drew ?_ | refine blk_alloc ?_ _)); refine blk_put (cs := #[.int .i64 3, .int .i64 0]) ?_ 1 _ rfl; (with_reducible repeat (first | refine blk_drewN ?_ _ | refine blk_drew ?_ | refine blk_alloc ?_ _)); refine blk_put (cs := #[.int .i64 0, .int .i64 0]) ?_ 0 _ rfl; (with_reducible repeat (first | refine blk_drewN ?_ _ | refine blk_drew ?_ | refine blk_alloc ?_ _)); exact BK394.out) Tryd.underlying23 rfl (by kernel_rfl)) rfl ?_
        exact ⟨by first | rfl | (simp [errW_none, errW_some] <;> rfl) | (simp [*, errW_none, errW_some] <;> rfl), blx⟩
       ·rw [if_neg c102] at H
        have c102b0 : (a1_1 == a2_1) = false := beq_eq_false_iff_ne.mpr c102
        have c102b1 : (a1_1 != a2_1) = true := bne_iff_ne.mpr c102
        simp only [Option.some.injEq, Prod.mk.injEq] at H
        obtain ⟨rfl, rfl⟩ := H
        have hnb112 := NB392_393.out
        have hnc112 := NB393_392.out
        have hnb113 := NB392_394.out
        have hnc113 := NB394_392.out
        have hnb114 := NB392_401.out
        have hnc114 := NB401_392.out
        have hcz115_0 : wc.cell? ⟨gb392, 0, none⟩ = some (.int .i64 a1_0) := (blk_cell BK392.out 0).trans rfl
        have hcz115_1 : wc.cell? ⟨gb392, 1, none⟩ = some (.int .i64 a1_1) := (blk_cell BK392.out 1).trans rfl
        have hfz115_0 := blk_frozen BK392.out 0
        have hfz115_1 := blk_frozen BK392.out 1
        have hnb116 := NB393_394.out
        have hnc116 := NB394_393.out
        have hnb117 := NB393_401.out
        have hnc117 := NB401_393.out
        have hcz118_0 : wc.cell? ⟨gb393, 0, none⟩ = some (.int .i64 a2_0) := (blk_cell BK393.out 0).trans rfl
        have hcz118_1 : wc.cell? ⟨gb393, 1, none⟩ = some (.int .i64 a2_1) := (blk_cell BK393.out 1).trans rfl
        have hfz118_0 := blk_frozen BK393.out 0
        have hfz118_1 := blk_frozen BK393.out 1
        have hnb119 := NB394_401.out
        have hnc119 := NB401_394.out
        have hcz120_0 : wc.cell? ⟨gb394, 0, none⟩ = some (.int .i64 0) := (blk_cell BK394.out 0).trans rfl
        have hcz120_1 : wc.cell? ⟨gb394, 1, none⟩ = some (.int .i64 0) := (blk_cell BK394.out 1).trans rfl
        have hfz120_0 := blk_frozen BK394.out 0
        have hfz120_1 := blk_frozen BK394.out 1
        go_wp2
        refine bodyPost_ret (results_cell_row rfl _ _ gb394 23 #[.int .i64 3, .int .i64 1] (0, 0) _ rfl (by (with_reducible repeat (first | refine blk_drewN ?_ _ | refine blk_drew ?_ | refine blk_alloc ?_ _)); refine blk_put (cs := #[.int .i64 3, .int .i64 0]) ?_ 1 _ rfl; (with_reducible repeat (first | refine blk_drewN ?_ _ | refine blk_drew ?_ | refine blk_alloc ?_ _)); refine blk_put (cs := #[.int .i64 0, .int .i64 0]) ?_ 0 _ rfl; (with_reducible repeat (first | refine blk_drewN ?_ _ | refine blk_drew ?_ | refine blk_alloc ?_ _)); exact BK394.out) Tryd.underlying23 rfl (by kernel_rfl)) rfl ?_
        exact ⟨by first | rfl | (simp [errW_none, errW_some] <;> rfl) | (simp [*, errW_none, errW_some] <;> rfl), blx⟩
      ·rw [if_neg c101] at H
       have c101b0 : (a0 == 26) = false := beq_eq_false_iff_ne.mpr c101
       have c101b1 : (a0 != 26) = true := bne_iff_ne.mpr c101
       by_cases c121 : a0 = 27
       ·rw [if_pos c121] at H
        have c121b0 : (a0 == 27) = true := beq_iff_eq.mpr c121
        have c121b1 : (a0 != 27) = false := bne_eq_false_iff_eq.mpr c121
        clear c121
        by_cases c122 : a1_1 < a2_1
        ·rw [if_pos c122] at H
         have c122b0 : decide (a1_1 < a2_1) = true := decide_eq_true c122
         clear c122
         simp only [Option.some.injEq, Prod.mk.injEq] at H
         obtain ⟨rfl, rfl⟩ := H
         have hnb123 := NB392_393.out
         have hnc123 := NB393_392.out
         have hnb124 := NB392_394.out
         have hnc124 := NB394_392.out
         have hnb125 := NB392_401.out
         have hnc125 := NB401_392.out
         have hcz126_0 : wc.cell? ⟨gb392, 0, none⟩ = some (.int .i64 a1_0) := (blk_cell BK392.out 0).trans rfl
         have hcz126_1 : wc.cell? ⟨gb392, 1, none⟩ = some (.int .i64 a1_1) := (blk_cell BK392.out 1).trans rfl
         have hfz126_0 := blk_frozen BK392.out 0
         have hfz126_1 := blk_frozen BK392.out 1
         have hnb127 := NB393_394.out
         have hnc127 := NB394_393.out
         have hnb128 := NB393_401.out
         have hnc128 := NB401_393.out
         have hcz129_0 : wc.cell? ⟨gb393, 0, none⟩ = some (.int .i64 a2_0) := (blk_cell BK393.out 0).trans rfl
         have hcz129_1 : wc.cell? ⟨gb393, 1, none⟩ = some (.int .i64 a2_1) := (blk_cell BK393.out 1).trans rfl
         have hfz129_0 := blk_frozen BK393.out 0
         have hfz129_1 := blk_frozen BK393.out 1
         have hnb130 := NB394_401.out
         have hnc130 := NB401_394.out
         have hcz131_0 : wc.cell? ⟨gb394, 0, none⟩ = some (.int .i64 0) := (blk_cell BK394.out 0).trans rfl
         have hcz131_1 : wc.cell? ⟨gb394, 1, none⟩ = some (.int .i64 0) := (blk_cell BK394.out 1).trans rfl
         have hfz131_0 := blk_frozen BK394.out 0
         have hfz131_1 := blk_frozen BK394.out 1
         go_wp2
         refine bodyPost_ret (results_cell_row rfl _ _ gb394 23 #[.int .i64 3, .int .i64 1] (0, 0) _ rfl (by (with_reducible repeat (first | refine blk_drewN ?_ _ | refine blk_drew ?_ | refine blk_alloc ?_ _)); refine blk_put (cs := #[.int .i64 3, .int .i64 0]) ?_ 1 _ rfl; (with_reducible repeat (first | refine blk_drewN ?_ _ | refine blk_drew ?_ | refine blk_alloc ?_ _)); refine blk_put (cs := #[.int .i64 0, .int .i64 0]) ?_ 0 _ rfl; (with_reducible repeat (first | refine blk_drewN ?_ _ | refine blk_drew ?_ | refine blk_alloc ?_ _)); exact BK394.out) Tryd.underlying23 rfl (by kernel_rfl)) rfl ?_
         exact ⟨by first | rfl | (simp [errW_none, errW_some] <;> rfl) | (simp [*, errW_none, errW_some] <;> rfl), blx⟩
        ·rw [if_neg c122] at H
         have c122b0 : decide (a1_1 < a2_1) = false := decide_eq_false c122
         clear c122
         simp only [Option.some.injEq, Prod.mk.injEq] at H
         obtain ⟨rfl, rfl⟩ := H
         have hnb132 := NB392_393.out
         have hnc132 := NB393_392.out
         have hnb133 := NB392_394.out
         have hnc133 := NB394_392.out
         have hnb134 := NB392_401.out
         have hnc134 := NB401_392.out
         have hcz135_0 : wc.cell? ⟨gb392, 0, none⟩ = some (.int .i64 a1_0) := (blk_cell BK392.out 0).trans rfl
         have hcz135_1 : wc.cell? ⟨gb392, 1, none⟩ = some (.int .i64 a1_1) := (blk_cell BK392.out 1).trans rfl
         have hfz135_0 := blk_frozen BK392.out 0
         have hfz135_1 := blk_frozen BK392.out 1
         have hnb136 := NB393_394.out
         have hnc136 := NB394_393.out
         have hnb137 := NB393_401.out
         have hnc137 := NB401_393.out
         have hcz138_0 : wc.cell? ⟨gb393, 0, none⟩ = some (.int .i64 a2_0) := (blk_cell BK393.out 0).trans rfl
         have hcz138_1 : wc.cell? ⟨gb393, 1, none⟩ = some (.int .i64 a2_1) := (blk_cell BK393.out 1).trans rfl
         have hfz138_0 := blk_frozen BK393.out 0
         have hfz138_1 := blk_frozen BK393.out 1
         have hnb139 := NB394_401.out
         have hnc139 := NB401_394.out
         have hcz140_0 : wc.cell? ⟨gb394, 0, none⟩ = some (.int .i64 0) := (blk_cell BK394.out 0).trans rfl
         have hcz140_1 : wc.cell? ⟨gb394, 1, none⟩ = some (.int .i64 0) := (blk_cell BK394.out 1).trans rfl
         have hfz140_0 := blk_frozen BK394.out 0
         have hfz140_1 := blk_frozen BK394.out 1
         go_wp2
         refine bodyPost_ret (results_cell_row rfl _ _ gb394 23 #[.int .i64 3, .int .i64 0] (0, 0) _ rfl (by (with_reducible repeat (first | refine blk_drewN ?_ _ | refine blk_drew ?_ | refine blk_alloc ?_ _)); refine blk_put (cs := #[.int .i64 3, .int .i64 0]) ?_ 1 _ rfl; (with_reducible repeat (first | refine blk_drewN ?_ _ | refine blk_drew ?_ | refine blk_alloc ?_ _)); refine blk_put (cs := #[.int .i64 0, .int .i64 0]) ?_ 0 _ rfl; (with_reducible repeat (first | refine blk_drewN ?_ _ | refine blk_drew ?_ | refine blk_alloc ?_ _)); exact BK394.out) Tryd.underlying23 rfl (by kernel_rfl)) rfl ?_
         exact ⟨by first | rfl | (simp [errW_none, errW_some] <;> rfl) | (simp [*, errW_none, errW_some] <;> rfl), blx⟩
       ·rw [if_neg c121] at H
        have c121b0 : (a0 == 27) = false := beq_eq_false_iff_ne.mpr c121
        have c121b1 : (a0 != 27) = true := bne_iff_ne.mpr c121
        by_cases c141 : a0 = 28
        ·rw [if_pos c141] at H
         have c141b0 : (a0 == 28) = true := beq_iff_eq.mpr c141
         have c141b1 : (a0 != 28) = false := bne_eq_false_iff_eq.mpr c141
         clear c141
         by_cases c142 : a1_1 ≤ a2_1
         ·rw [if_pos c142] at H
          have c142b0 : decide (a1_1 ≤ a2_1) = true := decide_eq_true c142
          clear c142
          simp only [Option.some.injEq, Prod.mk.injEq] at H
          obtain ⟨rfl, rfl⟩ := H
          have hnb143 := NB392_393.out
          have hnc143 := NB393_392.out
          have hnb144 := NB392_394.out
          have hnc144 := NB394_392.out
          have hnb145 := NB392_401.out
          have hnc145 := NB401_392.out
          have hcz146_0 : wc.cell? ⟨gb392, 0, none⟩ = some (.int .i64 a1_0) := (blk_cell BK392.out 0).trans rfl
          have hcz146_1 : wc.cell? ⟨gb392, 1, none⟩ = some (.int .i64 a1_1) := (blk_cell BK392.out 1).trans rfl
          have hfz146_0 := blk_frozen BK392.out 0
          have hfz146_1 := blk_frozen BK392.out 1
          have hnb147 := NB393_394.out
          have hnc147 := NB394_393.out
          have hnb148 := NB393_401.out
          have hnc148 := NB401_393.out
          have hcz149_0 : wc.cell? ⟨gb393, 0, none⟩ = some (.int .i64 a2_0) := (blk_cell BK393.out 0).trans rfl
          have hcz149_1 : wc.cell? ⟨gb393, 1, none⟩ = some (.int .i64 a2_1) := (blk_cell BK393.out 1).trans rfl
          have hfz149_0 := blk_frozen BK393.out 0
          have hfz149_1 := blk_frozen BK393.out 1
          have hnb150 := NB394_401.out
          have hnc150 := NB401_394.out
          have hcz151_0 : wc.cell? ⟨gb394, 0, none⟩ = some (.int .i64 0) := (blk_cell BK394.out 0).trans rfl
          have hcz151_1 : wc.cell? ⟨gb394, 1, none⟩ = some (.int .i64 0) := (blk_cell BK394.out 1).trans rfl
          have hfz151_0 := blk_frozen BK394.out 0
          have hfz151_1 := blk_frozen BK394.out 1
          go_wp2
          refine bodyPost_ret (results_cell_row rfl _ _ gb394 23 #[.int .i64 3, .int .i64 1] (0, 0) _ rfl (by (with_reducible repeat (first | refine blk_drewN ?_ _ | refine blk_drew ?_ | refine blk_alloc ?_ _)); refine blk_put (cs := #[.int .i64 3, .int .i64 0]) ?_ 1 _ rfl; (with_reducible repeat (first | refine blk_drewN ?_ _ | refine blk_drew ?_ | refine blk_alloc ?_ _)); refine blk_put (cs := #[.int .i64 0, .int .i64 0]) ?_ 0 _ rfl; (with_reducible repeat (first | refine blk_drewN ?_ _ | refine blk_drew ?_ | refine blk_alloc ?_ _)); exact BK394.out) Tryd.underlying23 rfl (by kernel_rfl)) rfl ?_
          exact ⟨by first | rfl | (simp [errW_none, errW_some] <;> rfl) | (simp [*, errW_none, errW_some] <;> rfl), blx⟩
         ·rw [if_neg c142] at H
          have c142b0 : decide (a1_1 ≤ a2_1) = false := decide_eq_false c142
          clear c142
          simp only [Option.some.injEq, Prod.mk.injEq] at H
          obtain ⟨rfl, rfl⟩ := H
          have hnb152 := NB392_393.out
          have hnc152 := NB393_392.out
          have hnb153 := NB392_394.out
          have hnc153 := NB394_392.out
          have hnb154 := NB392_401.out
          have hnc154 := NB401_392.out
          have hcz155_0 : wc.cell? ⟨gb392, 0, none⟩ = some (.int .i64 a1_0) := (blk_cell BK392.out 0).trans rfl
          have hcz155_1 : wc.cell? ⟨gb392, 1, none⟩ = some (.int .i64 a1_1) := (blk_cell BK392.out 1).trans rfl
          have hfz155_0 := blk_frozen BK392.out 0
          have hfz155_1 := blk_frozen BK392.out 1
          have hnb156 := NB393_394.out
          have hnc156 := NB394_393.out
          have hnb157 := NB393_401.out
          have hnc157 := NB401_393.out
          have hcz158_0 : wc.cell? ⟨gb393, 0, none⟩ = some (.int .i64 a2_0) := (blk_cell BK393.out 0).trans rfl
          have hcz158_1 : wc.cell? ⟨gb393, 1, none⟩ = some (.int .i64 a2_1) := (blk_cell BK393.out 1).trans rfl
          have hfz158_0 := blk_frozen BK393.out 0
          have hfz158_1 := blk_frozen BK393.out 1
          have hnb159 := NB394_401.out
          have hnc159 := NB401_394.out
          have hcz160_0 : wc.cell? ⟨gb394, 0, none⟩ = some (.int .i64 0) := (blk_cell BK394.out 0).trans rfl
          have hcz160_1 : wc.cell? ⟨gb394, 1, none⟩ = some (.int .i64 0) := (blk_cell BK394.out 1).trans rfl
          have hfz160_0 := blk_frozen BK394.out 0
          have hfz160_1 := blk_frozen BK394.out 1
          go_wp2
          refine bodyPost_ret (results_cell_row rfl _ _ gb394 23 #[.int .i64 3, .int .i64 0] (0, 0) _ rfl (by (with_reducible repeat (first | refine blk_drewN ?_ _ | refine blk_drew ?_ | refine blk_alloc ?_ _)); refine blk_put (cs := #[.int .i64 3, .int .i64 0]) ?_ 1 _ rfl; (with_reducible repeat (first | refine blk_drewN ?_ _ | refine blk_drew ?_ | refine blk_alloc ?_ _)); refine blk_put (cs := #[.int .i64 0, .int .i64 0]) ?_ 0 _ rfl; (with_reducible repeat (first | refine blk_drewN ?_ _ | refine blk_drew ?_ | refine blk_alloc ?_ _)); exact BK394.out) Tryd.underlying23 rfl (by kernel_rfl)) rfl ?_
          exact ⟨by first | rfl | (simp [errW_none, errW_some] <;> rfl) | (simp [*, errW_none, errW_some] <;> rfl), blx⟩
        ·rw [if_neg c141] at H
         have c141b0 : (a0 == 28) = false := beq_eq_false_iff_ne.mpr c141
         have c141b1 : (a0 != 28) = true := bne_iff_ne.mpr c141
         by_cases c161 : a0 = 29
         ·rw [if_pos c161] at H
          have c161b0 : (a0 == 29) = true := beq_iff_eq.mpr c161
          have c161b1 : (a0 != 29) = false := bne_eq_false_iff_eq.mpr c161
          clear c161
          by_cases c162 : a1_1 > a2_1
          ·rw [if_pos c162] at H
           have c162b0 : decide (a2_1 < a1_1) = true := decide_eq_true c162
           clear c162
           simp only [Option.some.injEq, Prod.mk.injEq] at H
           obtain ⟨rfl, rfl⟩ := H
           have hnb163 := NB392_393.out
           have hnc163 := NB393_392.out
           have hnb164 := NB392_394.out
           have hnc164 := NB394_392.out
           have hnb165 := NB392_401.out
           have hnc165 := NB401_392.out
           have hcz166_0 : wc.cell? ⟨gb392, 0, none⟩ = some (.int .i64 a1_0) := (blk_cell BK392.out 0).trans rfl
           have hcz166_1 : wc.cell? ⟨gb392, 1, none⟩ = some (.int .i64 a1_1) := (blk_cell BK392.out 1).trans rfl
           have hfz166_0 := blk_frozen BK392.out 0
           have hfz166_1 := blk_frozen BK392.out 1
           have hnb167 := NB393_394.out
           have hnc167 := NB394_393.out
           have hnb168 := NB393_401.out
           have hnc168 := NB401_393.out
           have hcz169_0 : wc.cell? ⟨gb393, 0, none⟩ = some (.int .i64 a2_0) := (blk_cell BK393.out 0).trans rfl
           have hcz169_1 : wc.cell? ⟨gb393, 1, none⟩ = some (.int .i64 a2_1) := (blk_cell BK393.out 1).trans rfl
           have hfz169_0 := blk_frozen BK393.out 0
           have hfz169_1 := blk_frozen BK393.out 1
           have hnb170 := NB394_401.out
           have hnc170 := NB401_394.out
           have hcz171_0 : wc.cell? ⟨gb394, 0, none⟩ = some (.int .i64 0) := (blk_cell BK394.out 0).trans rfl
           have hcz171_1 : wc.cell? ⟨gb394, 1, none⟩ = some (.int .i64 0) := (blk_cell BK394.out 1).trans rfl
           have hfz171_0 := blk_frozen BK394.out 0
           have hfz171_1 := blk_frozen BK394.out 1
           go_wp2
           refine bodyPost_ret (results_cell_row rfl _ _ gb394 23 #[.int .i64 3, .int .i64 1] (0, 0) _ rfl (by (with_reducible repeat (first | refine blk_drewN ?_ _ | refine blk_drew ?_ | refine blk_alloc ?_ _)); refine blk_put (cs := #[.int .i64 3, .int .i64 0]) ?_ 1 _ rfl; (with_reducible repeat (first | refine blk_drewN ?_ _ | refine blk_drew ?_ | refine blk_alloc ?_ _)); refine blk_put (cs := #[.int .i64 0, .int .i64 0]) ?_ 0 _ rfl; (with_reducible repeat (first | refine blk_drewN ?_ _ | refine blk_drew ?_ | refine blk_alloc ?_ _)); exact BK394.out) Tryd.underlying23 rfl (by kernel_rfl)) rfl ?_
           exact ⟨by first | rfl | (simp [errW_none, errW_some] <;> rfl) | (simp [*, errW_none, errW_some] <;> rfl), blx⟩
          ·rw [if_neg c162] at H
           have c162b0 : decide (a2_1 < a1_1) = false := decide_eq_false c162
           clear c162
           simp only [Option.some.injEq, Prod.mk.injEq] at H
           obtain ⟨rfl, rfl⟩ := H
           have hnb172 := NB392_393.out
           have hnc172 := NB393_392.out
           have hnb173 := NB392_394.out
           have hnc173 := NB394_392.out
           have hnb174 := NB392_401.out
           have hnc174 := NB401_392.out
           have hcz175_0 : wc.cell? ⟨gb392, 0, none⟩ = some (.int .i64 a1_0) := (blk_cell BK392.out 0).trans rfl
           have hcz175_1 : wc.cell? ⟨gb392, 1, none⟩ = some (.int .i64 a1_1) := (blk_cell BK392.out 1).trans rfl
           have hfz175_0 := blk_frozen BK392.out 0
           have hfz175_1 := blk_frozen BK392.out 1
           have hnb176 := NB393_394.out
           have hnc176 := NB394_393.out
           have hnb177 := NB393_401.out
           have hnc177 := NB401_393.out
           have hcz178_0 : wc.cell? ⟨gb393, 0, none⟩ = some (.int .i64 a2_0) := (blk_cell BK393.out 0).trans rfl
           have hcz178_1 : wc.cell? ⟨gb393, 1, none⟩ = some (.int .i64 a2_1) := (blk_cell BK393.out 1).trans rfl
           have hfz178_0 := blk_frozen BK393.out 0
           have hfz178_1 := blk_frozen BK393.out 1
           have hnb179 := NB394_401.out
           have hnc179 := NB401_394.out
           have hcz180_0 : wc.cell? ⟨gb394, 0, none⟩ = some (.int .i64 0) := (blk_cell BK394.out 0).trans rfl
           have hcz180_1 : wc.cell? ⟨gb394, 1, none⟩ = some (.int .i64 0) := (blk_cell BK394.out 1).trans rfl
           have hfz180_0 := blk_frozen BK394.out 0
           have hfz180_1 := blk_frozen BK394.out 1
           go_wp2
           refine bodyPost_ret (results_cell_row rfl _ _ gb394 23 #[.int .i64 3, .int .i64 0] (0, 0) _ rfl (by (with_reducible repeat (first | refine blk_drewN ?_ _ | refine blk_drew ?_ | refine blk_alloc ?_ _)); refine blk_put (cs := #[.int .i64 3, .int .i64 0]) ?_ 1 _ rfl; (with_reducible repeat (first | refine blk_drewN ?_ _ | refine blk_drew ?_ | refine blk_alloc ?_ _)); refine blk_put (cs := #[.int .i64 0, .int .i64 0]) ?_ 0 _ rfl; (with_reducible repeat (first | refine blk_drewN ?_ _ | refine blk_drew ?_ | refine blk_alloc ?_ _)); exact BK394.out) Tryd.underlying23 rfl (by kernel_rfl)) rfl ?_
           exact ⟨by first | rfl | (simp [errW_none, errW_some] <;> rfl) | (simp [*, errW_none, errW_some] <;> rfl), blx⟩
         ·rw [if_neg c161] at H
          have c161b0 : (a0 == 29) = false := beq_eq_false_iff_ne.mpr c161
          have c161b1 : (a0 != 29) = true := bne_iff_ne.mpr c161
          by_cases c181 : a0 = 30
          ·rw [if_pos c181] at H
           have c181b0 : (a0 == 30) = true := beq_iff_eq.mpr c181
           have c181b1 : (a0 != 30) = false := bne_eq_false_iff_eq.mpr c181
           clear c181
           by_cases c182 : a1_1 ≥ a2_1
           ·rw [if_pos c182] at H
            have c182b0 : decide (a2_1 ≤ a1_1) = true := decide_eq_true c182
            clear c182
            simp only [Option.some.injEq, Prod.mk.injEq] at H
            obtain ⟨rfl, rfl⟩ := H
            have hnb183 := NB392_393.out
            have hnc183 := NB393_392.out
            have hnb184 := NB392_394.out
            have hnc184 := NB394_392.out
            have hnb185 := NB392_401.out
            have hnc185 := NB401_392.out
            have hcz186_0 : wc.cell? ⟨gb392, 0, none⟩ = some (.int .i64 a1_0) := (blk_cell BK392.out 0).trans rfl
            have hcz186_1 : wc.cell? ⟨gb392, 1, none⟩ = some (.int .i64 a1_1) := (blk_cell BK392.out 1).trans rfl
            have hfz186_0 := blk_frozen BK392.out 0
            have hfz186_1 := blk_frozen BK392.out 1
            have hnb187 := NB393_394.out
            have hnc187 := NB394_393.out
            have hnb188 := NB393_401.out
            have hnc188 := NB401_393.out
            have hcz189_0 : wc.cell? ⟨gb393, 0, none⟩ = some (.int .i64 a2_0) := (blk_cell BK393.out 0).trans rfl
            have hcz189_1 : wc.cell? ⟨gb393, 1, none⟩ = some (.int .i64 a2_1) := (blk_cell BK393.out 1).trans rfl
            have hfz189_0 := blk_frozen BK393.out 0
            have hfz189_1 := blk_frozen BK393.out 1
            have hnb190 := NB394_401.out
            have hnc190 := NB401_394.out
            have hcz191_0 : wc.cell? ⟨gb394, 0, none⟩ = some (.int .i64 0) := (blk_cell BK394.out 0).trans rfl
            have hcz191_1 : wc.cell? ⟨gb394, 1, none⟩ = some (.int .i64 0) := (blk_cell BK394.out 1).trans rfl
            have hfz191_0 := blk_frozen BK394.out 0
            have hfz191_1 := blk_frozen BK394.out 1
            go_wp2
            refine bodyPost_ret (results_cell_row rfl _ _ gb394 23 #[.int .i64 3, .int .i64 1] (0, 0) _ rfl (by (with_reducible repeat (first | refine blk_drewN ?_ _ | refine blk_drew ?_ | refine blk_alloc ?_ _)); refine blk_put (cs := #[.int .i64 3, .int .i64 0]) ?_ 1 _ rfl; (with_reducible repeat (first | refine blk_drewN ?_ _ | refine blk_drew ?_ | refine blk_alloc ?_ _)); refine blk_put (cs := #[.int .i64 0, .int .i64 0]) ?_ 0 _ rfl; (with_reducible repeat (first | refine blk_drewN ?_ _ | refine blk_drew ?_ | refine blk_alloc ?_ _)); exact BK394.out) Tryd.underlying23 rfl (by kernel_rfl)) rfl ?_
            exact ⟨by first | rfl | (simp [errW_none, errW_some] <;> rfl) | (simp [*, errW_none, errW_some] <;> rfl), blx⟩
           ·rw [if_neg c182] at H
            have c182b0 : decide (a2_1 ≤ a1_1) = false := decide_eq_false c182
            clear c182
            simp only [Option.some.injEq, Prod.mk.injEq] at H
            obtain ⟨rfl, rfl⟩ := H
            have hnb192 := NB392_393.out
            have hnc192 := NB393_392.out
            have hnb193 := NB392_394.out
            have hnc193 := NB394_392.out
            have hnb194 := NB392_401.out
            have hnc194 := NB401_392.out
            have hcz195_0 : wc.cell? ⟨gb392, 0, none⟩ = some (.int .i64 a1_0) := (blk_cell BK392.out 0).trans rfl
            have hcz195_1 : wc.cell? ⟨gb392, 1, none⟩ = some (.int .i64 a1_1) := (blk_cell BK392.out 1).trans rfl
            have hfz195_0 := blk_frozen BK392.out 0
            have hfz195_1 := blk_frozen BK392.out 1
            have hnb196 := NB393_394.out
            have hnc196 := NB394_393.out
            have hnb197 := NB393_401.out
            have hnc197 := NB401_393.out
            have hcz198_0 : wc.cell? ⟨gb393, 0, none⟩ = some (.int .i64 a2_0) := (blk_cell BK393.out 0).trans rfl
            have hcz198_1 : wc.cell? ⟨gb393, 1, none⟩ = some (.int .i64 a2_1) := (blk_cell BK393.out 1).trans rfl
            have hfz198_0 := blk_frozen BK393.out 0
            have hfz198_1 := blk_frozen BK393.out 1
            have hnb199 := NB394_401.out
            have hnc199 := NB401_394.out
            have hcz200_0 : wc.cell? ⟨gb394, 0, none⟩ = some (.int .i64 0) := (blk_cell BK394.out 0).trans rfl
            have hcz200_1 : wc.cell? ⟨gb394, 1, none⟩ = some (.int .i64 0) := (blk_cell BK394.out 1).trans rfl
            have hfz200_0 := blk_frozen BK394.out 0
            have hfz200_1 := blk_frozen BK394.out 1
            go_wp2
            refine bodyPost_ret (results_cell_row rfl _ _ gb394 23 #[.int .i64 3, .int .i64 0] (0, 0) _ rfl (by (with_reducible repeat (first | refine blk_drewN ?_ _ | refine blk_drew ?_ | refine blk_alloc ?_ _)); refine blk_put (cs := #[.int .i64 3, .int .i64 0]) ?_ 1 _ rfl; (with_reducible repeat (first | refine blk_drewN ?_ _ | refine blk_drew ?_ | refine blk_alloc ?_ _)); refine blk_put (cs := #[.int .i64 0, .int .i64 0]) ?_ 0 _ rfl; (with_reducible repeat (first | refine blk_drewN ?_ _ | refine blk_drew ?_ | refine blk_alloc ?_ _)); exact BK394.out) Tryd.underlying23 rfl (by kernel_rfl)) rfl ?_
            exact ⟨by first | rfl | (simp [errW_none, errW_some] <;> rfl) | (simp [*, errW_none, errW_some] <;> rfl), blx⟩
          ·rw [if_neg c181] at H
           have c181b0 : (a0 == 30) = false := beq_eq_false_iff_ne.mpr c181
           have c181b1 : (a0 != 30) = true := bne_iff_ne.mpr c181
           simp only [Option.some.injEq, Prod.mk.injEq] at H
           obtain ⟨rfl, rfl⟩ := H
           have hnb201 := NB394_392.out
           have hnc201 := NB392_394.out
           have hnb202 := NB394_393.out
           have hnc202 := NB393_394.out
           have hnb203 := NB394_401.out
           have hnc203 := NB401_394.out
           have hcz204_0 : wc.cell? ⟨gb394, 0, none⟩ = some (.int .i64 0) := (blk_cell BK394.out 0).trans rfl
           have hcz204_1 : wc.cell? ⟨gb394, 1, none⟩ = some (.int .i64 0) := (blk_cell BK394.out 1).trans rfl
           have hfz204_0 := blk_frozen BK394.out 0
           have hfz204_1 := blk_frozen BK394.out 1
           go_wp2
           refine bodyPost_ret (results_cell_row rfl _ _ gb394 23 #[.int .i64 3, .int .i64 0] (0, 0) _ rfl (by (with_reducible repeat (first | refine blk_drewN ?_ _ | refine blk_drew ?_ | refine blk_alloc ?_ _)); refine blk_put (cs := #[.int .i64 3, .int .i64 0]) ?_ 1 _ rfl; (with_reducible repeat (first | refine blk_drewN ?_ _ | refine blk_drew ?_ | refine blk_alloc ?_ _)); refine blk_put (cs := #[.int .i64 0, .int .i64 0]) ?_ 0 _ rfl; (with_reducible repeat (first | refine blk_drewN ?_ _ | refine blk_drew ?_ | refine blk_alloc ?_ _)); exact BK394.out) Tryd.underlying23 rfl (by kernel_rfl)) rfl ?_
           exact ⟨by first | rfl | (simp [errW_none, errW_some] <;> rfl) | (simp [*, errW_none, errW_some] <;> rfl), blx⟩

end Go.Proofs.YtnjhjaifmgjljaaDoor.PM
