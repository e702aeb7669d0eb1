-- Written by a program of this session's (wip/tools/myprint.py): a function's plain form and its contract.
import Derived.Test.YtnjhjaifmgjljaaDoorPMx0
import Derived.Test.YtnjhjaifmgjljaaDoorPMx2
import Derived.Test.YtnjhjaifmgjljaaDoorPMx7
import Derived.Test.YtnjhjaifmgjljaaDoorPMx36
import Derived.Test.YtnjhjaifmgjljaaDoorPMx38
import Derived.Test.YtnjhjaifmgjljaaDoorPMx47
import Derived.Test.YtnjhjaifmgjljaaDoorPMx48
namespace Go.Proofs.YtnjhjaifmgjljaaDoor.PM
open Go.RowKit Go.Proofs.YtnjhjaifmgjljaaDoorW.PrintWords Go.Proofs.YtnjhjaifmgjljaaDoorW.PrintLast Go.Proofs.YtnjhjaifmgjljaaDoorW.PrintMore
attribute [local go_sem] max2_int min2_int max_two min_two max_three min_three max_four min_four   -- for this text's walks alone
set_option linter.unusedVariables false
set_option linter.unusedSimpArgs false

/-! ### money_Times: function 41 -/
def money_Times.j0 : Nat → Bool → Bool → Int → Bool → Option (Int × Int)
 | 0, _, _, _, _ => none
 | k + 1, x8, x10, x12, x45 => if x45 = true then ((money_fault.f 1).bind fun bt504 => (some (bt504.1, bt504.2))) else (if (x8 != x10) = true then ((money_cents.f (wrap64 (-(wrap64 (x12))))).bind fun bt506 => (some (bt506.1, bt506.2))) else ((money_cents.f (wrap64 (x12))).bind fun bt508 => (some (bt508.1, bt508.2))))
def money_Times.f (k : Nat) (a0_0 : Int) (a0_1 : Int) (a1_0 : Int) (a1_1 : Int) : Option (Int × Int) := (money_of.f k a0_0 a0_1 1 a1_0 a1_1 2).bind fun bt494 => (if bt494.2.2 = true then ((money_amount.f a0_1).bind fun bt498 => ((money_amount.f a1_1).bind fun bt500 => ((bits_Mul64.f bt498.1 bt500.1).bind fun bt502 => (if bt502.1 > 0 then (money_Times.j0 k bt498.2 bt500.2 bt502.2 true) else (money_Times.j0 k bt498.2 bt500.2 bt502.2 (decide (bt502.2 > 9999999999999))))))) else (some (bt494.1, bt494.2.1)))
theorem money_Times.mono_l : ∀ k, (∀ y0 y1 y2 y3, LeO (money_Times.j0 k y0 y1 y2 y3) (money_Times.j0 (k + 1) y0 y1 y2 y3))
 | 0 => fun _ _ _ _ r h => by simp [money_Times.j0] at h
 | k + 1 => by
  have ih0 := money_Times.mono_l k
  ·intro y0 y1 y2 y3
   unfold money_Times.j0
   repeat' first
   | (with_reducible exact ih0 _ _ _ _)
   | (with_reducible exact money_of.mono _ _ _ _ _ _ _)
   | (with_reducible exact LeO.refl _)
   | (with_reducible exact LeO.none _)
   | (with_reducible refine LeO.ite ?_ ?_)
   | (with_reducible refine LeO.bind ?_ (fun _ => ?_))
   | exact ih0 _ _ _ _
   | exact money_of.mono _ _ _ _ _ _ _
   | exact LeO.none _
   | refine LeO.ite ?_ ?_
   | refine LeO.bind ?_ (fun _ => ?_)
theorem money_Times.mono : ∀ a0 a1 a2 a3 k, LeO (money_Times.f k a0 a1 a2 a3) (money_Times.f (k + 1) a0 a1 a2 a3) := by
 intro a0 a1 a2 a3 k
 have ih0 := money_Times.mono_l k
 unfold money_Times.f
 repeat' first
   | (with_reducible exact ih0 _ _ _ _)
   | (with_reducible exact money_of.mono _ _ _ _ _ _ _)
   | (with_reducible exact LeO.refl _)
   | (with_reducible exact LeO.none _)
   | (with_reducible refine LeO.ite ?_ ?_)
   | (with_reducible refine LeO.bind ?_ (fun _ => ?_))
   | exact ih0 _ _ _ _
   | exact money_of.mono _ _ _ _ _ _ _
   | exact LeO.none _
   | refine LeO.ite ?_ ?_
   | refine LeO.bind ?_ (fun _ => ?_)
set_option maxHeartbeats 8000000 in
set_option maxRecDepth 100000 in
theorem money_Times.calls (k : Nat) (a0_0 : Int) (a0_1 : Int) (a1_0 : Int) (a1_1 : Int) (r1 : Int) (r2 : Int) (w : World) (h : money_Times.f k a0_0 a0_1 a1_0 a1_1 = some (r1, r2)) (hg0 : Kd.C k87 w (some ⟨0, 0, none⟩) gtab0.length gtab0) :
  Calls Tryd.prog 41 #[.agg #[.int .i64 a0_0, .int .i64 a0_1], .agg #[.int .i64 a1_0, .int .i64 a1_1]] w fun e w' => e = .returned (.agg #[.int .i64 r1, .int .i64 r2]) ∧ Below w.heap.size w w' := by
 have HG0 := Aside0.mk hg0
 clear hg0
 have hu23 := Tryd.underlying23
 have HB := Aside0.mk (Below.refl w.heap.size w)
 have H : ((money_of.f k a0_0 a0_1 1 a1_0 a1_1 2).bind fun bt494 => (if bt494.2.2 = true then ((money_amount.f a0_1).bind fun bt498 => ((money_amount.f a1_1).bind fun bt500 => ((bits_Mul64.f bt498.1 bt500.1).bind fun bt502 => (if bt502.1 > 0 then (money_Times.j0 k bt498.2 bt500.2 bt502.2 true) else (money_Times.j0 k bt498.2 bt500.2 bt502.2 (decide (bt502.2 > 9999999999999))))))) else (some (bt494.1, bt494.2.1)))) = some (r1, r2) := h
 clear h
 replace H := Option.bind_eq_some_iff.mp H
 obtain ⟨⟨t494, t495, t496⟩, A30, H⟩ := H
 replace H : (if t496 = true then ((money_amount.f a0_1).bind fun bt498 => ((money_amount.f a1_1).bind fun bt500 => ((bits_Mul64.f bt498.1 bt500.1).bind fun bt502 => (if bt502.1 > 0 then (money_Times.j0 k bt498.2 bt500.2 bt502.2 true) else (money_Times.j0 k bt498.2 bt500.2 bt502.2 (decide (bt502.2 > 9999999999999))))))) else (some (t494, t495))) = some (r1, r2) := H
 have A3 := Aside0.mk A30
 clear A30
 by_cases c4 : t496 = true
 ·subst c4
  have H1 : ((money_amount.f a0_1).bind fun bt498 => ((money_amount.f a1_1).bind fun bt500 => ((bits_Mul64.f bt498.1 bt500.1).bind fun bt502 => (if bt502.1 > 0 then (money_Times.j0 k bt498.2 bt500.2 bt502.2 true) else (money_Times.j0 k bt498.2 bt500.2 bt502.2 (decide (bt502.2 > 9999999999999))))))) = some (r1, r2) := by rw [if_pos rfl] at H; exact H
  clear H
  have H := H1
  clear H1
  replace H := Option.bind_eq_some_iff.mp H
  obtain ⟨⟨t498, t499⟩, A50, H⟩ := H
  replace H : ((money_amount.f a1_1).bind fun bt500 => ((bits_Mul64.f t498 bt500.1).bind fun bt502 => (if bt502.1 > 0 then (money_Times.j0 k t499 bt500.2 bt502.2 true) else (money_Times.j0 k t499 bt500.2 bt502.2 (decide (bt502.2 > 9999999999999)))))) = some (r1, r2) := H
  have A5 := Aside0.mk A50
  clear A50
  replace H := Option.bind_eq_some_iff.mp H
  obtain ⟨⟨t500, t501⟩, A60, H⟩ := H
  replace H : ((bits_Mul64.f t498 t500).bind fun bt502 => (if bt502.1 > 0 then (money_Times.j0 k t499 t501 bt502.2 true) else (money_Times.j0 k t499 t501 bt502.2 (decide (bt502.2 > 9999999999999))))) = some (r1, r2) := H
  have A6 := Aside0.mk A60
  clear A60
  replace H := Option.bind_eq_some_iff.mp H
  obtain ⟨⟨t502, t503⟩, A70, H⟩ := H
  replace H : (if t502 > 0 then (money_Times.j0 k t499 t501 t503 true) else (money_Times.j0 k t499 t501 t503 (decide (t503 > 9999999999999)))) = some (r1, r2) := H
  have A7 := Aside0.mk A70
  clear A70
  have HC8 := Aside0.mk H
  clear H
  go_enter Tryd.func41, Tryd.ntmps41
  go_upto_region 7 with (first | ((with_reducible refine gate_dst (N := 2) rfl ?_); refine box_event ?hg (N := 2) ?hd (cs := #[.int .i64 a0_0, .int .i64 a0_1]) (t := 23) ?hr ?_; (case hd => rfl); (case hg => rfl); (case hr => first | (go_simp; done) | (go_simp; rfl)); intro gb491 hg w9 hbox hb; have n0_ := Aside0.mk (below_step blx hb); have n1_ := Aside0.mk (hbox); have n2_ := Aside0.mk ((by rw [hg]; exact (below_size blx) : w.heap.size ≤ gb491)); have n3_ := Aside0.mk ((by rw [hg]; exact (below_size blx) : w.heap.size ≤ gb491)); clear HB; have HB := n0_; have BK491 := n1_; have GW491 := n2_; have GE491 := n3_; clear n0_ n1_ n2_ n3_; clear hb hbox hg) | ((with_reducible refine gate_dst (N := 3) rfl ?_); refine box_event ?hg (N := 3) ?hd (cs := #[.int .i64 a1_0, .int .i64 a1_1]) (t := 23) ?hr ?_; (case hd => rfl); (case hg => rfl); (case hr => first | (go_simp; done) | (go_simp; rfl)); intro gb492 hg w10 hbox hb; have n0_ := Aside0.mk (blk_below (g := gb491) (o := .cells #[.int .i64 a0_0, .int .i64 a0_1] 23 (0, 0)) bkx hb); have n1_ := Aside0.mk (below_step blx hb); have n2_ := Aside0.mk (hbox); have n3_ := Aside0.mk ((by rw [hg]; exact (below_size blx) : w.heap.size ≤ gb492)); have n4_ := Aside0.mk ((by rw [hg]; exact (below_size blx) : w.heap.size ≤ gb492)); have n5_ := Aside0.mk ((by rw [hg]; exact Nat.ne_of_lt (blk_lt (g := gb491) (o := .cells #[.int .i64 a0_0, .int .i64 a0_1] 23 (0, 0)) bkx) : gb491 ≠ gb492)); have n6_ := Aside0.mk ((by rw [hg]; exact Nat.ne_of_gt (blk_lt (g := gb491) (o := .cells #[.int .i64 a0_0, .int .i64 a0_1] 23 (0, 0)) bkx) : gb492 ≠ gb491)); clear BK491; clear HB; have BK491 := n0_; have HB := n1_; have BK492 := n2_; have GW492 := n3_; have GE492 := n4_; have NB491_492 := n5_; have NB492_491 := n6_; clear n0_ n1_ n2_ n3_ n4_ n5_ n6_; clear hb hbox hg) | ((with_reducible refine gate_dst (N := 4) rfl ?_); refine box_event ?hg (N := 4) ?hd (cs := #[.int .i64 0, .int .i64 0]) (t := 23) ?hr ?_; (case hd => rfl); (case hg => rfl); (case hr => first | (go_simp; done) | (go_simp; rfl)); intro gb493 hg w11 hbox hb; have n0_ := Aside0.mk (blk_below (g := gb491) (o := .cells #[.int .i64 a0_0, .int .i64 a0_1] 23 (0, 0)) bkx hb); have n1_ := Aside0.mk (blk_below (g := gb492) (o := .cells #[.int .i64 a1_0, .int .i64 a1_1] 23 (0, 0)) bkx hb); have n2_ := Aside0.mk (below_step blx hb); have n3_ := Aside0.mk (hbox); have n4_ := Aside0.mk ((by rw [hg]; exact (below_size blx) : w.heap.size ≤ gb493)); have n5_ := Aside0.mk ((by rw [hg]; exact (below_size blx) : w.heap.size ≤ gb493)); have n6_ := Aside0.mk ((by rw [hg]; exact Nat.ne_of_lt (blk_lt (g := gb491) (o := .cells #[.int .i64 a0_0, .int .i64 a0_1] 23 (0, 0)) bkx) : gb491 ≠ gb493)); have n7_ := Aside0.mk ((by rw [hg]; exact Nat.ne_of_gt (blk_lt (g := gb491) (o := .cells #[.int .i64 a0_0, .int .i64 a0_1] 23 (0, 0)) bkx) : gb493 ≠ gb491)); have n8_ := Aside0.mk ((by rw [hg]; exact Nat.ne_of_lt (blk_lt (g := gb492) (o := .cells #[.int .i64 a1_0, .int .i64 a1_1] 23 (0, 0)) bkx) : gb492 ≠ gb493)); have n9_ := Aside0.mk ((by rw [hg]; exact Nat.ne_of_gt (blk_lt (g := gb492) (o := .cells #[.int .i64 a1_0, .int .i64 a1_1] 23 (0, 0)) bkx) : gb493 ≠ gb492)); clear BK491; clear BK492; clear HB; have BK491 := n0_; have BK492 := n1_; have HB := n2_; have BK493 := n3_; have GW493 := n4_; have GE493 := n5_; have NB491_493 := n6_; have NB493_491 := n7_; have NB492_493 := n8_; have NB493_492 := n9_; clear n0_ n1_ n2_ n3_ n4_ n5_ n6_ n7_ n8_ n9_; clear hb hbox hg; have hnb12 := NB491_492.out; have hnc12 := NB492_491.out; have hnb13 := NB491_493.out; have hnc13 := NB493_491.out; have hcz14_0 : w11.cell? ⟨gb491, 0, none⟩ = some (.int .i64 a0_0) := (blk_cell BK491.out 0).trans rfl; have hcz14_1 : w11.cell? ⟨gb491, 1, none⟩ = some (.int .i64 a0_1) := (blk_cell BK491.out 1).trans rfl; have hfz14_0 := blk_frozen BK491.out 0; have hfz14_1 := blk_frozen BK491.out 1; have hnb15 := NB492_493.out; have hnc15 := NB493_492.out; have hcz16_0 : w11.cell? ⟨gb492, 0, none⟩ = some (.int .i64 a1_0) := (blk_cell BK492.out 0).trans rfl; have hcz16_1 : w11.cell? ⟨gb492, 1, none⟩ = some (.int .i64 a1_1) := (blk_cell BK492.out 1).trans rfl; have hfz16_0 := blk_frozen BK492.out 0; have hfz16_1 := blk_frozen BK492.out 1) | ((with_reducible refine gate_callee (f := 74) rfl ?_); refine goesL_ (some 16) rfl rfl Tryd.func74 (by kernel_rfl) rfl #[.agg #[.int .i64 a0_0, .int .i64 a0_1], .int .i64 1, .agg #[.int .i64 a1_0, .int .i64 a1_1], .int .i64 2] rfl agx ?_; (with_reducible refine (money_of.calls k a0_0 a0_1 1 a1_0 a1_1 2 t494 t495 true _ A3.out (by first | exact HG0.out | exact Kd.C_below HG0.out blx)).mono ?_); rintro e w17 ⟨rfl, hb⟩; refine ⟨_, rfl, ?_⟩; have n0_ := Aside0.mk (blk_below (g := gb491) (o := .cells #[.int .i64 a0_0, .int .i64 a0_1] 23 (0, 0)) bkx hb); have n1_ := Aside0.mk (blk_below (g := gb492) (o := .cells #[.int .i64 a1_0, .int .i64 a1_1] 23 (0, 0)) bkx hb); have n2_ := Aside0.mk (blk_below (g := gb493) (o := .cells #[.int .i64 0, .int .i64 0] 23 (0, 0)) bkx hb); have n3_ := Aside0.mk (below_step blx hb); clear BK491; clear BK492; clear BK493; clear HB; have BK491 := n0_; have BK492 := n1_; have BK493 := n2_; have HB := n3_; clear n0_ n1_ n2_ n3_; (try clear hb); (try clear hb2); (try clear hk); (try clear hi)) | ((with_reducible refine gate_dst (N := 5) rfl ?_); refine box_event ?hg (N := 5) ?hd (cs := #[.int .i64 0, .int .i64 0]) (t := 23) ?hr ?_; (case hd => rfl); (case hg => rfl); (case hr => first | (go_simp; done) | (go_simp; rfl)); intro gb497 hg w18 hbox hb; have n0_ := Aside0.mk (blk_below (g := gb491) (o := .cells #[.int .i64 a0_0, .int .i64 a0_1] 23 (0, 0)) bkx hb); have n1_ := Aside0.mk (blk_below (g := gb492) (o := .cells #[.int .i64 a1_0, .int .i64 a1_1] 23 (0, 0)) bkx hb); have n2_ := Aside0.mk (blk_below (g := gb493) (o := .cells #[.int .i64 0, .int .i64 0] 23 (0, 0)) bkx hb); have n3_ := Aside0.mk (below_step blx hb); have n4_ := Aside0.mk (hbox); have n5_ := Aside0.mk ((by rw [hg]; exact (below_size blx) : w.heap.size ≤ gb497)); have n6_ := Aside0.mk ((by rw [hg]; exact (below_size blx) : w.heap.size ≤ gb497)); have n7_ := Aside0.mk ((by rw [hg]; exact Nat.ne_of_lt (blk_lt (g := gb491) (o := .cells #[.int .i64 a0_0, .int .i64 a0_1] 23 (0, 0)) bkx) : gb491 ≠ gb497)); have n8_ := Aside0.mk ((by rw [hg]; exact Nat.ne_of_gt (blk_lt (g := gb491) (o := .cells #[.int .i64 a0_0, .int .i64 a0_1] 23 (0, 0)) bkx) : gb497 ≠ gb491)); have n9_ := Aside0.mk ((by rw [hg]; exact Nat.ne_of_lt (blk_lt (g := gb492) (o := .cells #[.int .i64 a1_0, .int .i64 a1_1] 23 (0, 0)) bkx) : gb492 ≠ gb497)); have n10_ := Aside0.mk ((by rw [hg]; exact Nat.ne_of_gt (blk_lt (g := gb492) (o := .cells #[.int .i64 a1_0, .int .i64 a1_1] 23 (0, 0)) bkx) : gb497 ≠ gb492)); have n11_ := Aside0.mk ((by rw [hg]; exact Nat.ne_of_lt (blk_lt (g := gb493) (o := .cells #[.int .i64 0, .int .i64 0] 23 (0, 0)) bkx) : gb493 ≠ gb497)); have n12_ := Aside0.mk ((by rw [hg]; exact Nat.ne_of_gt (blk_lt (g := gb493) (o := .cells #[.int .i64 0, .int .i64 0] 23 (0, 0)) bkx) : gb497 ≠ gb493)); clear BK491; clear BK492; clear BK493; clear HB; have BK491 := n0_; have BK492 := n1_; have BK493 := n2_; have HB := n3_; have BK497 := n4_; have GW497 := n5_; have GE497 := n6_; have NB491_497 := n7_; have NB497_491 := n8_; have NB492_497 := n9_; have NB497_492 := n10_; have NB493_497 := n11_; have NB497_493 := n12_; clear n0_ n1_ n2_ n3_ n4_ n5_ n6_ n7_ n8_ n9_ n10_ n11_ n12_; clear hb hbox hg; have hnb19 := NB497_491.out; have hnc19 := NB491_497.out; have hnb20 := NB497_492.out; have hnc20 := NB492_497.out; have hnb21 := NB497_493.out; have hnc21 := NB493_497.out; have hcz22_0 : w18.cell? ⟨gb497, 0, none⟩ = some (.int .i64 0) := (blk_cell BK497.out 0).trans rfl; have hcz22_1 : w18.cell? ⟨gb497, 1, none⟩ = some (.int .i64 0) := (blk_cell BK497.out 1).trans rfl; have hfz22_0 := blk_frozen BK497.out 0; have hfz22_1 := blk_frozen BK497.out 1; have hcz23_0 : w18.cell? ⟨gb491, 0, none⟩ = some (.int .i64 a0_0) := (blk_cell BK491.out 0).trans rfl; have hcz23_1 : w18.cell? ⟨gb491, 1, none⟩ = some (.int .i64 a0_1) := (blk_cell BK491.out 1).trans rfl; have hfz23_0 := blk_frozen BK491.out 0; have hfz23_1 := blk_frozen BK491.out 1) | ((with_reducible refine gate_callee (f := 67) rfl ?_); refine goesL_ (some 25) rfl rfl Tryd.func67 (by kernel_rfl) rfl #[.int .i64 a0_1] rfl agx ?_; (with_reducible refine (money_amount.calls a0_1 t498 t499 _ A5.out).mono ?_); rintro e w' ⟨rfl, ⟨nd, rfl⟩⟩; refine ⟨_, rfl, ?_⟩; have hcz24_0 : w18.cell? ⟨gb492, 0, none⟩ = some (.int .i64 a1_0) := (blk_cell BK492.out 0).trans rfl; have hcz24_1 : w18.cell? ⟨gb492, 1, none⟩ = some (.int .i64 a1_1) := (blk_cell BK492.out 1).trans rfl; have hfz24_0 := blk_frozen BK492.out 0; have hfz24_1 := blk_frozen BK492.out 1) | ((with_reducible refine gate_callee (f := 67) rfl ?_); refine goesL_ (some 31) rfl rfl Tryd.func67 (by kernel_rfl) rfl #[.int .i64 a1_1] rfl agx ?_; (with_reducible refine (money_amount.calls a1_1 t500 t501 _ A6.out).mono ?_); rintro e w' ⟨rfl, ⟨nd, rfl⟩⟩; refine ⟨_, rfl, ?_⟩) | ((with_reducible refine gate_callee (f := 75) rfl ?_); refine goesL_ (some 37) rfl rfl Tryd.func75 (by kernel_rfl) rfl #[.int .u64 t498, .int .u64 t500] rfl agx ?_; (with_reducible refine (bits_Mul64.calls t498 t500 t502 t503 _ A7.out).mono ?_); rintro e w' ⟨rfl, ⟨nd, rfl⟩⟩; refine ⟨_, rfl, ?_⟩))
  (try simp only [Act.put, List.setIfInBounds_toArray, List.set_cons_zero, List.set_cons_succ])
  go_cut [45] (fun v45 wc => ∃ (kq : Nat) (x45_7 : Bool), v45 = .bool x45_7 ∧ Aside0 (money_Times.j0 kq t499 t501 t503 x45_7 = some (r1, r2)) ∧ Aside0 (kq ≤ k) ∧ Aside0 (wc.heap[gb491]? = some (.cells #[.int .i64 a0_0, .int .i64 a0_1] 23 (0, 0))) ∧ Aside0 (wc.heap[gb492]? = some (.cells #[.int .i64 a1_0, .int .i64 a1_1] 23 (0, 0))) ∧ Aside0 (wc.heap[gb493]? = some (.cells #[.int .i64 0, .int .i64 0] 23 (0, 0))) ∧ Aside0 (wc.heap[gb497]? = some (.cells #[.int .i64 t494, .int .i64 t495] 23 (0, 0))) ∧ Aside0 (Below w.heap.size w wc))
  case first =>
   have H := HC8.out
   clear HC8
   by_cases c25 : t502 > 0
   ·rw [if_pos c25] at H
    have c25b0 : decide (0 < t502) = true := decide_eq_true c25
    clear c25
    (first | rw [c25b0] | (simp only [i64_w, i32_w]; rw [c25b0]) | skip)
    have H' := Aside0.mk H
    clear H
    go_wp2
    go_meet
    case rel => exact ⟨_, (true), (by first | rfl | (simp; done) | (simp [*]; done)), H', ⟨by first | omega | exact Nat.le_refl _⟩, ⟨bkx⟩, ⟨bkx⟩, ⟨bkx⟩, ⟨by (with_reducible repeat (first | refine blk_drewN ?_ _ | refine blk_drew ?_ | refine blk_alloc ?_ _)); refine blk_put (cs := #[.int .i64 t494, .int .i64 0]) ?_ 1 _ rfl; (with_reducible repeat (first | refine blk_drewN ?_ _ | refine blk_drew ?_ | refine blk_alloc ?_ _)); refine blk_put (cs := #[.int .i64 0, .int .i64 0]) ?_ 0 _ rfl; (with_reducible repeat (first | refine blk_drewN ?_ _ | refine blk_drew ?_ | refine blk_alloc ?_ _)); exact BK497.out⟩, ⟨blx⟩⟩
   ·rw [if_neg c25] at H
    have c25b0 : decide (0 < t502) = false := decide_eq_false c25
    clear c25
    (first | rw [c25b0] | (simp only [i64_w, i32_w]; rw [c25b0]) | skip)
    have H' := Aside0.mk H
    clear H
    go_wp2
    go_meet
    case rel => exact ⟨_, (decide (t503 > 9999999999999)), (by first | rfl | (simp; done) | (simp [*]; done)), H', ⟨by first | omega | exact Nat.le_refl _⟩, ⟨bkx⟩, ⟨bkx⟩, ⟨bkx⟩, ⟨by (with_reducible repeat (first | refine blk_drewN ?_ _ | refine blk_drew ?_ | refine blk_alloc ?_ _)); refine blk_put (cs := #[.int .i64 t494, .int .i64 0]) ?_ 1 _ rfl; (with_reducible repeat (first | refine blk_drewN ?_ _ | refine blk_drew ?_ | refine blk_alloc ?_ _)); refine blk_put (cs := #[.int .i64 0, .int .i64 0]) ?_ 0 _ rfl; (with_reducible repeat (first | refine blk_drewN ?_ _ | refine blk_drew ?_ | refine blk_alloc ?_ _)); exact BK497.out⟩, ⟨blx⟩⟩
  case rest =>
   clear HC8
   try clear c1
   try clear c2
   try clear p2
   try clear c4
   try clear c6
   try clear c7
   try clear c12
   try clear c13
   try clear c15
   try clear c19
   try clear c20
   try clear c21
   try clear c25
   try clear c25b0
   try clear hcz14_0
   try clear hcz14_1
   try clear hcz16_0
   try clear hcz16_1
   try clear hcz22_0
   try clear hcz22_1
   try clear hcz23_0
   try clear hcz23_1
   try clear hcz24_0
   try clear hcz24_1
   try clear hfz14_0
   try clear hfz14_1
   try clear hfz16_0
   try clear hfz16_1
   try clear hfz22_0
   try clear hfz22_1
   try clear hfz23_0
   try clear hfz23_1
   try clear hfz24_0
   try clear hfz24_1
   obtain ⟨kq, x45_7, rfl, HA, HJ7, BK491, BK492, BK493, BK497, HB⟩ := hcut
   cases kq with
   | zero => exact absurd HA.out (by simp [money_Times.j0])
   | succ kj7 =>
    have H := HA.out
    clear HA
    simp only [money_Times.j0] at H
    by_cases c26 : x45_7 = true
    ·subst c26
     have H1 : ((money_fault.f 1).bind fun bt504 => (some (bt504.1, bt504.2))) = some (r1, r2) := by rw [if_pos rfl] at H; exact H
     clear H
     have H := H1
     clear H1
     replace H := Option.bind_eq_some_iff.mp H
     obtain ⟨⟨t504, t505⟩, A270, H⟩ := H
     replace H : (some (t504, t505)) = some (r1, r2) := H
     have A27 := Aside0.mk A270
     clear A270
     simp only [Option.some.injEq, Prod.mk.injEq] at H
     obtain ⟨rfl, rfl⟩ := H
     go_wp2_with (first | ((with_reducible refine gate_callee (f := 59) rfl ?_); refine goesL_ (some 46) rfl rfl Tryd.func59 (by kernel_rfl) rfl #[.int .i64 1] rfl agx ?_; (with_reducible refine (money_fault.calls 1 t504 t505 _ A27.out).mono ?_); rintro e w28 ⟨rfl, hb⟩; refine ⟨_, rfl, ?_⟩; have n0_ := Aside0.mk (blk_below (g := gb491) (o := .cells #[.int .i64 a0_0, .int .i64 a0_1] 23 (0, 0)) bkx hb); have n1_ := Aside0.mk (blk_below (g := gb492) (o := .cells #[.int .i64 a1_0, .int .i64 a1_1] 23 (0, 0)) bkx hb); have n2_ := Aside0.mk (blk_below (g := gb493) (o := .cells #[.int .i64 0, .int .i64 0] 23 (0, 0)) bkx hb); have n3_ := Aside0.mk (blk_below (g := gb497) (o := .cells #[.int .i64 t494, .int .i64 t495] 23 (0, 0)) bkx hb); have n4_ := Aside0.mk (below_step blx hb); clear BK491; clear BK492; clear BK493; clear BK497; clear HB; have BK491 := n0_; have BK492 := n1_; have BK493 := n2_; have BK497 := n3_; have HB := n4_; clear n0_ n1_ n2_ n3_ n4_; (try clear hb); (try clear hb2); (try clear hk); (try clear hi); have hnb29 := NB493_491.out; have hnc29 := NB491_493.out; have hnb30 := NB493_492.out; have hnc30 := NB492_493.out; have hnb31 := NB493_497.out; have hnc31 := NB497_493.out; have hcz32_0 : w28.cell? ⟨gb493, 0, none⟩ = some (.int .i64 0) := (blk_cell BK493.out 0).trans rfl; have hcz32_1 : w28.cell? ⟨gb493, 1, none⟩ = some (.int .i64 0) := (blk_cell BK493.out 1).trans rfl; have hfz32_0 := blk_frozen BK493.out 0; have hfz32_1 := blk_frozen BK493.out 1))
     refine bodyPost_ret (results_cell_row rfl _ _ gb493 23 #[.int .i64 t504, .int .i64 t505] (0, 0) _ rfl (by (with_reducible repeat (first | refine blk_drewN ?_ _ | refine blk_drew ?_ | refine blk_alloc ?_ _)); refine blk_put (cs := #[.int .i64 t504, .int .i64 0]) ?_ 1 _ rfl; (with_reducible repeat (first | refine blk_drewN ?_ _ | refine blk_drew ?_ | refine blk_alloc ?_ _)); refine blk_put (cs := #[.int .i64 0, .int .i64 0]) ?_ 0 _ rfl; (with_reducible repeat (first | refine blk_drewN ?_ _ | refine blk_drew ?_ | refine blk_alloc ?_ _)); exact BK493.out) Tryd.underlying23 rfl (by kernel_rfl)) rfl ?_
     exact ⟨by first | rfl | (simp [errW_none, errW_some] <;> rfl) | (simp [*, errW_none, errW_some] <;> rfl), blx⟩
    ·replace c26 := Bool.eq_false_iff.mpr c26
     subst c26
     have H1 : (if (t499 != t501) = true then ((money_cents.f (wrap64 (-(wrap64 (t503))))).bind fun bt506 => (some (bt506.1, bt506.2))) else ((money_cents.f (wrap64 (t503))).bind fun bt508 => (some (bt508.1, bt508.2)))) = some (r1, r2) := by rw [if_neg (show ¬ (false = true) by decide)] at H; exact H
     clear H
     have H := H1
     clear H1
     by_cases c33 : (t499 != t501) = true
     ·rw [if_pos c33] at H
      have c33b0 : (t499 != t501) = true := c33
      (try (have c33b1 : decide (t499 = t501) = false := by simpa using c33))
      (try (have c33b2 : (t499 == t501) = false := by simpa using c33))
      (try (have c33b3 : ¬ (t499 = t501) := by simpa using c33))
      clear c33
      replace H := Option.bind_eq_some_iff.mp H
      obtain ⟨⟨t506, t507⟩, A340, H⟩ := H
      replace H : (some (t506, t507)) = some (r1, r2) := H
      have A34 := Aside0.mk A340
      clear A340
      simp only [Option.some.injEq, Prod.mk.injEq] at H
      obtain ⟨rfl, rfl⟩ := H
      go_wp2_with (first | ((with_reducible refine gate_callee (f := 69) rfl ?_); refine goesL_ (some 53) rfl rfl Tryd.func69 (by kernel_rfl) rfl #[.int .i64 (wrap64 (-(wrap64 (t503))))] rfl agx ?_; (with_reducible refine (money_cents.calls (wrap64 (-(wrap64 (t503)))) t506 t507 _ A34.out (by first | exact HG0.out | exact Kd.C_below HG0.out blx)).mono ?_); rintro e w35 ⟨rfl, hb⟩; refine ⟨_, rfl, ?_⟩; have n0_ := Aside0.mk (blk_below (g := gb491) (o := .cells #[.int .i64 a0_0, .int .i64 a0_1] 23 (0, 0)) bkx hb); have n1_ := Aside0.mk (blk_below (g := gb492) (o := .cells #[.int .i64 a1_0, .int .i64 a1_1] 23 (0, 0)) bkx hb); have n2_ := Aside0.mk (blk_below (g := gb493) (o := .cells #[.int .i64 0, .int .i64 0] 23 (0, 0)) bkx hb); have n3_ := Aside0.mk (blk_below (g := gb497) (o := .cells #[.int .i64 t494, .int .i64 t495] 23 (0, 0)) bkx hb); have n4_ := Aside0.mk (below_step blx hb); clear BK491; clear BK492; clear BK493; clear BK497; clear HB; have BK491 := n0_; have BK492 := n1_; have BK493 := n2_; have BK497 := n3_; have HB := n4_; clear n0_ n1_ n2_ n3_ n4_; (try clear hb); (try clear hb2); (try clear hk); (try clear hi); have hnb36 := NB493_491.out; have hnc36 := NB491_493.out; have hnb37 := NB493_492.out; have hnc37 := NB492_493.out; have hnb38 := NB493_497.out; have hnc38 := NB497_493.out; have hcz39_0 : w35.cell? ⟨gb493, 0, none⟩ = some (.int .i64 0) := (blk_cell BK493.out 0).trans rfl; have hcz39_1 : w35.cell? ⟨gb493, 1, none⟩ = some (.int .i64 0) := (blk_cell BK493.out 1).trans rfl; have hfz39_0 := blk_frozen BK493.out 0; have hfz39_1 := blk_frozen BK493.out 1))
      refine bodyPost_ret (results_cell_row rfl _ _ gb493 23 #[.int .i64 t506, .int .i64 t507] (0, 0) _ rfl (by (with_reducible repeat (first | refine blk_drewN ?_ _ | refine blk_drew ?_ | refine blk_alloc ?_ _)); refine blk_put (cs := #[.int .i64 t506, .int .i64 0]) ?_ 1 _ rfl; (with_reducible repeat (first | refine blk_drewN ?_ _ | refine blk_drew ?_ | refine blk_alloc ?_ _)); refine blk_put (cs := #[.int .i64 0, .int .i64 0]) ?_ 0 _ rfl; (with_reducible repeat (first | refine blk_drewN ?_ _ | refine blk_drew ?_ | refine blk_alloc ?_ _)); exact BK493.out) Tryd.underlying23 rfl (by kernel_rfl)) rfl ?_
      exact ⟨by first | rfl | (simp [errW_none, errW_some] <;> rfl) | (simp [*, errW_none, errW_some] <;> rfl), blx⟩
     ·rw [if_neg c33] at H
      have c33b0 : (t499 != t501) = false := by simpa using c33
      (try (have c33b1 : decide (t499 = t501) = true := by simpa using c33))
      (try (have c33b2 : (t499 == t501) = true := by simpa using c33))
      clear c33
      replace H := Option.bind_eq_some_iff.mp H
      obtain ⟨⟨t508, t509⟩, A400, H⟩ := H
      replace H : (some (t508, t509)) = some (r1, r2) := H
      have A40 := Aside0.mk A400
      clear A400
      simp only [Option.some.injEq, Prod.mk.injEq] at H
      obtain ⟨rfl, rfl⟩ := H
      go_wp2_with (first | ((with_reducible refine gate_callee (f := 69) rfl ?_); refine goesL_ (some 56) rfl rfl Tryd.func69 (by kernel_rfl) rfl #[.int .i64 (wrap64 (t503))] rfl agx ?_; (with_reducible refine (money_cents.calls (wrap64 (t503)) t508 t509 _ A40.out (by first | exact HG0.out | exact Kd.C_below HG0.out blx)).mono ?_); rintro e w41 ⟨rfl, hb⟩; refine ⟨_, rfl, ?_⟩; have n0_ := Aside0.mk (blk_below (g := gb491) (o := .cells #[.int .i64 a0_0, .int .i64 a0_1] 23 (0, 0)) bkx hb); have n1_ := Aside0.mk (blk_below (g := gb492) (o := .cells #[.int .i64 a1_0, .int .i64 a1_1] 23 (0, 0)) bkx hb); have n2_ := Aside0.mk (blk_below (g := gb493) (o := .cells #[.int .i64 0, .int .i64 0] 23 (0, 0)) bkx hb); have n3_ := Aside0.mk (blk_below (g := gb497) (o := .cells #[.int .i64 t494, .int .i64 t495] 23 (0, 0)) bkx hb); have n4_ := Aside0.mk (below_step blx hb); clear BK491; clear BK492; clear BK493; clear BK497; clear HB; have BK491 := n0_; have BK492 := n1_; have BK493 := n2_; have BK497 := n3_; have HB := n4_; clear n0_ n1_ n2_ n3_ n4_; (try clear hb); (try clear hb2); (try clear hk); (try clear hi); have hnb42 := NB493_491.out; have hnc42 := NB491_493.out; have hnb43 := NB493_492.out; have hnc43 := NB492_493.out; have hnb44 := NB493_497.out; have hnc44 := NB497_493.out; have hcz45_0 : w41.cell? ⟨gb493, 0, none⟩ = some (.int .i64 0) := (blk_cell BK493.out 0).trans rfl; have hcz45_1 : w41.cell? ⟨gb493, 1, none⟩ = some (.int .i64 0) := (blk_cell BK493.out 1).trans rfl; have hfz45_0 := blk_frozen BK493.out 0; have hfz45_1 := blk_frozen BK493.out 1))
      refine bodyPost_ret (results_cell_row rfl _ _ gb493 23 #[.int .i64 t508, .int .i64 t509] (0, 0) _ rfl (by (with_reducible repeat (first | refine blk_drewN ?_ _ | refine blk_drew ?_ | refine blk_alloc ?_ _)); refine blk_put (cs := #[.int .i64 t508, .int .i64 0]) ?_ 1 _ rfl; (with_reducible repeat (first | refine blk_drewN ?_ _ | refine blk_drew ?_ | refine blk_alloc ?_ _)); refine blk_put (cs := #[.int .i64 0, .int .i64 0]) ?_ 0 _ rfl; (with_reducible repeat (first | refine blk_drewN ?_ _ | refine blk_drew ?_ | refine blk_alloc ?_ _)); exact BK493.out) Tryd.underlying23 rfl (by kernel_rfl)) rfl ?_
      exact ⟨by first | rfl | (simp [errW_none, errW_some] <;> rfl) | (simp [*, errW_none, errW_some] <;> rfl), blx⟩
 ·replace c4 := Bool.eq_false_iff.mpr c4
  subst c4
  have H1 : (some (t494, t495)) = some (r1, r2) := by rw [if_neg (show ¬ (false = true) by decide)] at H; exact H
  clear H
  have H := H1
  clear H1
  simp only [Option.some.injEq, Prod.mk.injEq] at H
  obtain ⟨rfl, rfl⟩ := H
  go_enter Tryd.func41, Tryd.ntmps41
  go_wp2_with (first | ((with_reducible refine gate_dst (N := 2) rfl ?_); refine box_event ?hg (N := 2) ?hd (cs := #[.int .i64 a0_0, .int .i64 a0_1]) (t := 23) ?hr ?_; (case hd => rfl); (case hg => rfl); (case hr => first | (go_simp; done) | (go_simp; rfl)); intro gb491 hg w46 hbox hb; have n0_ := Aside0.mk (below_step blx hb); have n1_ := Aside0.mk (hbox); have n2_ := Aside0.mk ((by rw [hg]; exact (below_size blx) : w.heap.size ≤ gb491)); have n3_ := Aside0.mk ((by rw [hg]; exact (below_size blx) : w.heap.size ≤ gb491)); clear HB; have HB := n0_; have BK491 := n1_; have GW491 := n2_; have GE491 := n3_; clear n0_ n1_ n2_ n3_; clear hb hbox hg) | ((with_reducible refine gate_dst (N := 3) rfl ?_); refine box_event ?hg (N := 3) ?hd (cs := #[.int .i64 a1_0, .int .i64 a1_1]) (t := 23) ?hr ?_; (case hd => rfl); (case hg => rfl); (case hr => first | (go_simp; done) | (go_simp; rfl)); intro gb492 hg w47 hbox hb; have n0_ := Aside0.mk (blk_below (g := gb491) (o := .cells #[.int .i64 a0_0, .int .i64 a0_1] 23 (0, 0)) bkx hb); have n1_ := Aside0.mk (below_step blx hb); have n2_ := Aside0.mk (hbox); have n3_ := Aside0.mk ((by rw [hg]; exact (below_size blx) : w.heap.size ≤ gb492)); have n4_ := Aside0.mk ((by rw [hg]; exact (below_size blx) : w.heap.size ≤ gb492)); have n5_ := Aside0.mk ((by rw [hg]; exact Nat.ne_of_lt (blk_lt (g := gb491) (o := .cells #[.int .i64 a0_0, .int .i64 a0_1] 23 (0, 0)) bkx) : gb491 ≠ gb492)); have n6_ := Aside0.mk ((by rw [hg]; exact Nat.ne_of_gt (blk_lt (g := gb491) (o := .cells #[.int .i64 a0_0, .int .i64 a0_1] 23 (0, 0)) bkx) : gb492 ≠ gb491)); clear BK491; clear HB; have BK491 := n0_; have HB := n1_; have BK492 := n2_; have GW492 := n3_; have GE492 := n4_; have NB491_492 := n5_; have NB492_491 := n6_; clear n0_ n1_ n2_ n3_ n4_ n5_ n6_; clear hb hbox hg) | ((with_reducible refine gate_dst (N := 4) rfl ?_); refine box_event ?hg (N := 4) ?hd (cs := #[.int .i64 0, .int .i64 0]) (t := 23) ?hr ?_; (case hd => rfl); (case hg => rfl); (case hr => first | (go_simp; done) | (go_simp; rfl)); intro gb493 hg w48 hbox hb; have n0_ := Aside0.mk (blk_below (g := gb491) (o := .cells #[.int .i64 a0_0, .int .i64 a0_1] 23 (0, 0)) bkx hb); have n1_ := Aside0.mk (blk_below (g := gb492) (o := .cells #[.int .i64 a1_0, .int .i64 a1_1] 23 (0, 0)) bkx hb); have n2_ := Aside0.mk (below_step blx hb); have n3_ := Aside0.mk (hbox); have n4_ := Aside0.mk ((by rw [hg]; exact (below_size blx) : w.heap.size ≤ gb493)); have n5_ := Aside0.mk ((by rw [hg]; exact (below_size blx) : w.heap.size ≤ gb493)); have n6_ := Aside0.mk ((by rw [hg]; exact Nat.ne_of_lt (blk_lt (g := gb491) (o := .cells #[.int .i64 a0_0, .int .i64 a0_1] 23 (0, 0)) bkx) : gb491 ≠ gb493)); have n7_ := Aside0.mk ((by rw [hg]; exact Nat.ne_of_gt (blk_lt (g := gb491) (o := .cells #[.int .i64 a0_0, .int .i64 a0_1] 23 (0, 0)) bkx) : gb493 ≠ gb491)); have n8_ := Aside0.mk ((by rw [hg]; exact Nat.ne_of_lt (blk_lt (g := gb492) (o := .cells #[.int .i64 a1_0, .int .i64 a1_1] 23 (0, 0)) bkx) : gb492 ≠ gb493)); have n9_ := Aside0.mk ((by rw [hg]; exact Nat.ne_of_gt (blk_lt (g := gb492) (o := .cells #[.int .i64 a1_0, .int .i64 a1_1] 23 (0, 0)) bkx) : gb493 ≠ gb492)); clear BK491; clear BK492; clear HB; have BK491 := n0_; have BK492 := n1_; have HB := n2_; have BK493 := n3_; have GW493 := n4_; have GE493 := n5_; have NB491_493 := n6_; have NB493_491 := n7_; have NB492_493 := n8_; have NB493_492 := n9_; clear n0_ n1_ n2_ n3_ n4_ n5_ n6_ n7_ n8_ n9_; clear hb hbox hg; have hnb49 := NB491_492.out; have hnc49 := NB492_491.out; have hnb50 := NB491_493.out; have hnc50 := NB493_491.out; have hcz51_0 : w48.cell? ⟨gb491, 0, none⟩ = some (.int .i64 a0_0) := (blk_cell BK491.out 0).trans rfl; have hcz51_1 : w48.cell? ⟨gb491, 1, none⟩ = some (.int .i64 a0_1) := (blk_cell BK491.out 1).trans rfl; have hfz51_0 := blk_frozen BK491.out 0; have hfz51_1 := blk_frozen BK491.out 1; have hnb52 := NB492_493.out; have hnc52 := NB493_492.out; have hcz53_0 : w48.cell? ⟨gb492, 0, none⟩ = some (.int .i64 a1_0) := (blk_cell BK492.out 0).trans rfl; have hcz53_1 : w48.cell? ⟨gb492, 1, none⟩ = some (.int .i64 a1_1) := (blk_cell BK492.out 1).trans rfl; have hfz53_0 := blk_frozen BK492.out 0; have hfz53_1 := blk_frozen BK492.out 1) | ((with_reducible refine gate_callee (f := 74) rfl ?_); refine goesL_ (some 16) rfl rfl Tryd.func74 (by kernel_rfl) rfl #[.agg #[.int .i64 a0_0, .int .i64 a0_1], .int .i64 1, .agg #[.int .i64 a1_0, .int .i64 a1_1], .int .i64 2] rfl agx ?_; (with_reducible refine (money_of.calls k a0_0 a0_1 1 a1_0 a1_1 2 t494 t495 false _ A3.out (by first | exact HG0.out | exact Kd.C_below HG0.out blx)).mono ?_); rintro e w54 ⟨rfl, hb⟩; refine ⟨_, rfl, ?_⟩; have n0_ := Aside0.mk (blk_below (g := gb491) (o := .cells #[.int .i64 a0_0, .int .i64 a0_1] 23 (0, 0)) bkx hb); have n1_ := Aside0.mk (blk_below (g := gb492) (o := .cells #[.int .i64 a1_0, .int .i64 a1_1] 23 (0, 0)) bkx hb); have n2_ := Aside0.mk (blk_below (g := gb493) (o := .cells #[.int .i64 0, .int .i64 0] 23 (0, 0)) bkx hb); have n3_ := Aside0.mk (below_step blx hb); clear BK491; clear BK492; clear BK493; clear HB; have BK491 := n0_; have BK492 := n1_; have BK493 := n2_; have HB := n3_; clear n0_ n1_ n2_ n3_; (try clear hb); (try clear hb2); (try clear hk); (try clear hi)) | ((with_reducible refine gate_dst (N := 5) rfl ?_); refine box_event ?hg (N := 5) ?hd (cs := #[.int .i64 0, .int .i64 0]) (t := 23) ?hr ?_; (case hd => rfl); (case hg => rfl); (case hr => first | (go_simp; done) | (go_simp; rfl)); intro gb497 hg w55 hbox hb; have n0_ := Aside0.mk (blk_below (g := gb491) (o := .cells #[.int .i64 a0_0, .int .i64 a0_1] 23 (0, 0)) bkx hb); have n1_ := Aside0.mk (blk_below (g := gb492) (o := .cells #[.int .i64 a1_0, .int .i64 a1_1] 23 (0, 0)) bkx hb); have n2_ := Aside0.mk (blk_below (g := gb493) (o := .cells #[.int .i64 0, .int .i64 0] 23 (0, 0)) bkx hb); have n3_ := Aside0.mk (below_step blx hb); have n4_ := Aside0.mk (hbox); have n5_ := Aside0.mk ((by rw [hg]; exact (below_size blx) : w.heap.size ≤ gb497)); have n6_ := Aside0.mk ((by rw [hg]; exact (below_size blx) : w.heap.size ≤ gb497)); have n7_ := Aside0.mk ((by rw [hg]; exact Nat.ne_of_lt (blk_lt (g := gb491) (o := .cells #[.int .i64 a0_0, .int .i64 a0_1] 23 (0, 0)) bkx) : gb491 ≠ gb497)); have n8_ := Aside0.mk ((by rw [hg]; exact Nat.ne_of_gt (blk_lt (g := gb491) (o := .cells #[.int .i64 a0_0, .int .i64 a0_1] 23 (0, 0)) bkx) : gb497 ≠ gb491)); have n9_ := Aside0.mk ((by rw [hg]; exact Nat.ne_of_lt (blk_lt (g := gb492) (o := .cells #[.int .i64 a1_0, .int .i64 a1_1] 23 (0, 0)) bkx) : gb492 ≠ gb497)); have n10_ := Aside0.mk ((by rw [hg]; exact Nat.ne_of_gt (blk_lt (g := gb492) (o := .cells #[.int .i64 a1_0, .int .i64 a1_1] 23 (0, 0)) bkx) : gb497 ≠ gb492)); have n11_ := Aside0.mk ((by rw [hg]; exact Nat.ne_of_lt (blk_lt (g := gb493) (o := .cells #[.int .i64 0, .int .i64 0] 23 (0, 0)) bkx) : gb493 ≠ gb497)); have n12_ := Aside0.mk ((by rw [hg]; exact Nat.ne_of_gt (blk_lt (g := gb493) (o := .cells #[.int .i64 0, .int .i64 0] 23 (0, 0)) bkx) : gb497 ≠ gb493)); clear BK491; clear BK492; clear BK493; clear HB; have BK491 := n0_; have BK492 := n1_; have BK493 := n2_; have HB := n3_; have BK497 := n4_; have GW497 := n5_; have GE497 := n6_; have NB491_497 := n7_; have NB497_491 := n8_; have NB492_497 := n9_; have NB497_492 := n10_; have NB493_497 := n11_; have NB497_493 := n12_; clear n0_ n1_ n2_ n3_ n4_ n5_ n6_ n7_ n8_ n9_ n10_ n11_ n12_; clear hb hbox hg; have hnb56 := NB497_491.out; have hnc56 := NB491_497.out; have hnb57 := NB497_492.out; have hnc57 := NB492_497.out; have hnb58 := NB497_493.out; have hnc58 := NB493_497.out; have hcz59_0 : w55.cell? ⟨gb497, 0, none⟩ = some (.int .i64 0) := (blk_cell BK497.out 0).trans rfl; have hcz59_1 : w55.cell? ⟨gb497, 1, none⟩ = some (.int .i64 0) := (blk_cell BK497.out 1).trans rfl; have hfz59_0 := blk_frozen BK497.out 0; have hfz59_1 := blk_frozen BK497.out 1; have hcz60_0 : w55.cell? ⟨gb493, 0, none⟩ = some (.int .i64 0) := (blk_cell BK493.out 0).trans rfl; have hcz60_1 : w55.cell? ⟨gb493, 1, none⟩ = some (.int .i64 0) := (blk_cell BK493.out 1).trans rfl; have hfz60_0 := blk_frozen BK493.out 0; have hfz60_1 := blk_frozen BK493.out 1))
  refine bodyPost_ret (results_cell_row rfl _ _ gb493 23 #[.int .i64 t494, .int .i64 t495] (0, 0) _ rfl (by (with_reducible repeat (first | refine blk_drewN ?_ _ | refine blk_drew ?_ | refine blk_alloc ?_ _)); refine blk_put (cs := #[.int .i64 t494, .int .i64 0]) ?_ 1 _ rfl; (with_reducible repeat (first | refine blk_drewN ?_ _ | refine blk_drew ?_ | refine blk_alloc ?_ _)); refine blk_put (cs := #[.int .i64 0, .int .i64 0]) ?_ 0 _ rfl; (with_reducible repeat (first | refine blk_drewN ?_ _ | refine blk_drew ?_ | refine blk_alloc ?_ _)); refine blk_far ?_ NB493_497.out _; (with_reducible repeat (first | refine blk_drewN ?_ _ | refine blk_drew ?_ | refine blk_alloc ?_ _)); refine blk_far ?_ NB493_497.out _; (with_reducible repeat (first | refine blk_drewN ?_ _ | refine blk_drew ?_ | refine blk_alloc ?_ _)); exact BK493.out) Tryd.underlying23 rfl (by kernel_rfl)) rfl ?_
  exact ⟨by first | rfl | (simp [errW_none, errW_some] <;> rfl) | (simp [*, errW_none, errW_some] <;> rfl), blx⟩

end Go.Proofs.YtnjhjaifmgjljaaDoor.PM
