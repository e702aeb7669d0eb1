-- Written by a program of this session's (wip/tools/myprint.py): a function's plain form and its contract.
import Derived.Test.YtnjhjaifmgjljaaDoorPMx0
import Derived.Test.YtnjhjaifmgjljaaDoorPMx2
import Derived.Test.YtnjhjaifmgjljaaDoorPMx7
import Derived.Test.YtnjhjaifmgjljaaDoorPMx9
import Derived.Test.YtnjhjaifmgjljaaDoorPMx35
import Derived.Test.YtnjhjaifmgjljaaDoorPMx36
import Derived.Test.YtnjhjaifmgjljaaDoorPMx37
import Derived.Test.YtnjhjaifmgjljaaDoorPMx38
import Derived.Test.YtnjhjaifmgjljaaDoorPMx48
import Derived.Test.YtnjhjaifmgjljaaDoorPMx57
namespace Go.Proofs.YtnjhjaifmgjljaaDoor.PM
open Go.RowKit Go.Proofs.YtnjhjaifmgjljaaDoorW.PrintWords Go.Proofs.YtnjhjaifmgjljaaDoorW.PrintLast Go.Proofs.YtnjhjaifmgjljaaDoorW.PrintMore
attribute [local go_sem] max2_int min2_int max_two min_two max_three min_three max_four min_four   -- for this text's walks alone
set_option linter.unusedVariables false
set_option linter.unusedSimpArgs false

/-! ### money_Scale: function 49 -/
def money_Scale.j0 : Nat → Int → Int → Int → Bool → Int → Int → Option (Int × Int)
 | 0, _, _, _, _, _, _ => none
 | k + 1, x1, x2, x3, x53, x605000, x605001 => if x53 = true then ((money_fault.f 5).bind fun bt614 => (some (bt614.1, bt614.2))) else ((money_amount.f x605001).bind fun bt616 => ((money_amount.f x1).bind fun bt618 => ((bits_Mul64.f bt616.1 bt618.1).bind fun bt620 => (if bt620.1 ≥ (IntKind.u64.wrap (x2)) then ((money_fault.f 1).bind fun bt622 => (some (bt622.1, bt622.2))) else ((bits_Div64.f k bt620.1 bt620.2 (IntKind.u64.wrap (x2))).bind fun bt624 => ((money_rounded.f k bt624.1 bt624.2 (IntKind.u64.wrap (x2)) (bt616.2 != bt618.2) x3).bind fun bt626 => (if bt626.2 = true then ((money_cents.f bt626.1).bind fun bt628 => (some (bt628.1, bt628.2))) else ((money_fault.f 1).bind fun bt630 => (some (bt630.1, bt630.2))))))))))
def money_Scale.f (k : Nat) (a0_0 : Int) (a0_1 : Int) (a1 : Int) (a2 : Int) (a3 : Int) : Option (Int × Int) := (money_seen.f k (([(⟨a0_0, a0_1⟩ : S23)] : List (S23)))).bind fun bt609 => (if bt609.2.2 = true then (if a0_0 = 1 then (if a1 < (-1000000000) then (money_Scale.j0 k a1 a2 a3 true a0_0 a0_1) else (if a1 > 1000000000 then (money_Scale.j0 k a1 a2 a3 true a0_0 a0_1) else (if a2 < 1 then (money_Scale.j0 k a1 a2 a3 true a0_0 a0_1) else (if a2 > 1000000000 then (money_Scale.j0 k a1 a2 a3 true a0_0 a0_1) else ((money_modes.f a3).bind fun t613 => (money_Scale.j0 k a1 a2 a3 (!t613) a0_0 a0_1)))))) else (money_Scale.j0 k a1 a2 a3 true a0_0 a0_1)) else (some (bt609.1, bt609.2.1)))
theorem money_Scale.mono_l : ∀ k, (∀ y0 y1 y2 y3 y4 y5, LeO (money_Scale.j0 k y0 y1 y2 y3 y4 y5) (money_Scale.j0 (k + 1) y0 y1 y2 y3 y4 y5))
 | 0 => fun _ _ _ _ _ _ r h => by simp [money_Scale.j0] at h
 | k + 1 => by
  have ih0 := money_Scale.mono_l k
  ·intro y0 y1 y2 y3 y4 y5
   unfold money_Scale.j0
   repeat' first
   | (with_reducible exact ih0 _ _ _ _ _ _)
   | (with_reducible exact bits_Div64.mono _ _ _ _)
   | (with_reducible exact money_rounded.mono _ _ _ _ _ _)
   | (with_reducible exact money_seen.mono _ _)
   | (with_reducible exact LeO.refl _)
   | (with_reducible exact LeO.none _)
   | (with_reducible refine LeO.ite ?_ ?_)
   | (with_reducible refine LeO.bind ?_ (fun _ => ?_))
   | exact ih0 _ _ _ _ _ _
   | exact bits_Div64.mono _ _ _ _
   | exact money_rounded.mono _ _ _ _ _ _
   | exact money_seen.mono _ _
   | exact LeO.none _
   | refine LeO.ite ?_ ?_
   | refine LeO.bind ?_ (fun _ => ?_)
theorem money_Scale.mono : ∀ a0 a1 a2 a3 a4 k, LeO (money_Scale.f k a0 a1 a2 a3 a4) (money_Scale.f (k + 1) a0 a1 a2 a3 a4) := by
 intro a0 a1 a2 a3 a4 k
 have ih0 := money_Scale.mono_l k
 unfold money_Scale.f
 repeat' first
   | (with_reducible exact ih0 _ _ _ _ _ _)
   | (with_reducible exact bits_Div64.mono _ _ _ _)
   | (with_reducible exact money_rounded.mono _ _ _ _ _ _)
   | (with_reducible exact money_seen.mono _ _)
   | (with_reducible exact LeO.refl _)
   | (with_reducible exact LeO.none _)
   | (with_reducible refine LeO.ite ?_ ?_)
   | (with_reducible refine LeO.bind ?_ (fun _ => ?_))
   | exact ih0 _ _ _ _ _ _
   | exact bits_Div64.mono _ _ _ _
   | exact money_rounded.mono _ _ _ _ _ _
   | exact money_seen.mono _ _
   | exact LeO.none _
   | refine LeO.ite ?_ ?_
   | refine LeO.bind ?_ (fun _ => ?_)
set_option maxHeartbeats 8000000 in
set_option maxRecDepth 100000 in
theorem money_Scale.calls (k : Nat) (a0_0 : Int) (a0_1 : Int) (a1 : Int) (a2 : Int) (a3 : Int) (r1 : Int) (r2 : Int) (w : World) (h : money_Scale.f k a0_0 a0_1 a1 a2 a3 = some (r1, r2)) (hg0 : Kd.C k87 w (some ⟨0, 0, none⟩) gtab0.length gtab0) :
  Calls Tryd.prog 49 #[.agg #[.int .i64 a0_0, .int .i64 a0_1], .int .i64 a1, .int .i64 a2, .int .i64 a3] w fun e w' => e = .returned (.agg #[.int .i64 r1, .int .i64 r2]) ∧ Below w.heap.size w w' := by
 have HG0 := Aside0.mk hg0
 clear hg0
 have hu23 := Tryd.underlying23
 have HB := Aside0.mk (Below.refl w.heap.size w)
 have H : ((money_seen.f k (([(⟨a0_0, a0_1⟩ : S23)] : List (S23)))).bind fun bt609 => (if bt609.2.2 = true then (if a0_0 = 1 then (if a1 < (-1000000000) then (money_Scale.j0 k a1 a2 a3 true a0_0 a0_1) else (if a1 > 1000000000 then (money_Scale.j0 k a1 a2 a3 true a0_0 a0_1) else (if a2 < 1 then (money_Scale.j0 k a1 a2 a3 true a0_0 a0_1) else (if a2 > 1000000000 then (money_Scale.j0 k a1 a2 a3 true a0_0 a0_1) else ((money_modes.f a3).bind fun t613 => (money_Scale.j0 k a1 a2 a3 (!t613) a0_0 a0_1)))))) else (money_Scale.j0 k a1 a2 a3 true a0_0 a0_1)) else (some (bt609.1, bt609.2.1)))) = some (r1, r2) := h
 clear h
 obtain ⟨y606, hy606⟩ : ∃ y_ : List (S23), y_ = (([(⟨a0_0, a0_1⟩ : S23)] : List (S23))) := ⟨_, rfl⟩
 replace H : ((money_seen.f k y606).bind fun bt609 => (if bt609.2.2 = true then (if a0_0 = 1 then (if a1 < (-1000000000) then (money_Scale.j0 k a1 a2 a3 true a0_0 a0_1) else (if a1 > 1000000000 then (money_Scale.j0 k a1 a2 a3 true a0_0 a0_1) else (if a2 < 1 then (money_Scale.j0 k a1 a2 a3 true a0_0 a0_1) else (if a2 > 1000000000 then (money_Scale.j0 k a1 a2 a3 true a0_0 a0_1) else ((money_modes.f a3).bind fun t613 => (money_Scale.j0 k a1 a2 a3 (!t613) a0_0 a0_1)))))) else (money_Scale.j0 k a1 a2 a3 true a0_0 a0_1)) else (some (bt609.1, bt609.2.1)))) = some (r1, r2) := by first | (rw [hy606]; with_reducible exact H) | (have H2_ := (Option.bind_some _ _).symm.trans H; rw [hy606]; with_reducible exact H2_) | (have H2_ := (Option.bind_some _ _).symm.trans H; with_reducible exact H2_) | with_reducible exact H | (rw [hy606]; exact H) | exact H
 have Ny606 := Aside0.mk hy606
 clear hy606
 replace H := Option.bind_eq_some_iff.mp H
 obtain ⟨⟨t609, t610, t611⟩, A50, H⟩ := H
 replace H : (if t611 = true then (if a0_0 = 1 then (if a1 < (-1000000000) then (money_Scale.j0 k a1 a2 a3 true a0_0 a0_1) else (if a1 > 1000000000 then (money_Scale.j0 k a1 a2 a3 true a0_0 a0_1) else (if a2 < 1 then (money_Scale.j0 k a1 a2 a3 true a0_0 a0_1) else (if a2 > 1000000000 then (money_Scale.j0 k a1 a2 a3 true a0_0 a0_1) else ((money_modes.f a3).bind fun t613 => (money_Scale.j0 k a1 a2 a3 (!t613) a0_0 a0_1)))))) else (money_Scale.j0 k a1 a2 a3 true a0_0 a0_1)) else (some (t609, t610))) = some (r1, r2) := H
 have A5 := Aside0.mk A50
 clear A50
 by_cases c6 : t611 = true
 ·subst c6
  have H1 : (if a0_0 = 1 then (if a1 < (-1000000000) then (money_Scale.j0 k a1 a2 a3 true a0_0 a0_1) else (if a1 > 1000000000 then (money_Scale.j0 k a1 a2 a3 true a0_0 a0_1) else (if a2 < 1 then (money_Scale.j0 k a1 a2 a3 true a0_0 a0_1) else (if a2 > 1000000000 then (money_Scale.j0 k a1 a2 a3 true a0_0 a0_1) else ((money_modes.f a3).bind fun t613 => (money_Scale.j0 k a1 a2 a3 (!t613) a0_0 a0_1)))))) else (money_Scale.j0 k a1 a2 a3 true a0_0 a0_1)) = some (r1, r2) := by rw [if_pos rfl] at H; exact H
  clear H
  have H := H1
  clear H1
  have HC7 := Aside0.mk H
  clear H
  go_enter Tryd.func49, Tryd.ntmps49
  go_upto_region 4 with (first | ((with_reducible refine gate_dst (N := 4) rfl ?_); refine box_event ?hg (N := 4) ?hd (cs := #[.int .i64 a0_0, .int .i64 a0_1]) (t := 23) ?hr ?_; (case hd => rfl); (case hg => rfl); (case hr => first | (go_simp; done) | (go_simp; rfl)); intro gb604 hg w8 hbox hb; have n0_ := Aside0.mk (below_step blx hb); have n1_ := Aside0.mk (hbox); have n2_ := Aside0.mk ((by rw [hg]; exact (below_size blx) : w.heap.size ≤ gb604)); have n3_ := Aside0.mk ((by rw [hg]; exact (below_size blx) : w.heap.size ≤ gb604)); clear HB; have HB := n0_; have BK604 := n1_; have GW604 := n2_; have GE604 := n3_; clear n0_ n1_ n2_ n3_; clear hb hbox hg) | ((with_reducible refine gate_dst (N := 8) rfl ?_); refine box_event ?hg (N := 8) ?hd (cs := #[.int .i64 0, .int .i64 0]) (t := 23) ?hr ?_; (case hd => rfl); (case hg => rfl); (case hr => first | (go_simp; done) | (go_simp; rfl)); intro gb605 hg w9 hbox hb; have n0_ := Aside0.mk (blk_below (g := gb604) (o := .cells #[.int .i64 a0_0, .int .i64 a0_1] 23 (0, 0)) bkx hb); have n1_ := Aside0.mk (below_step blx hb); have n2_ := Aside0.mk (hbox); have n3_ := Aside0.mk ((by rw [hg]; exact (below_size blx) : w.heap.size ≤ gb605)); have n4_ := Aside0.mk ((by rw [hg]; exact (below_size blx) : w.heap.size ≤ gb605)); have n5_ := Aside0.mk ((by rw [hg]; exact Nat.ne_of_lt (blk_lt (g := gb604) (o := .cells #[.int .i64 a0_0, .int .i64 a0_1] 23 (0, 0)) bkx) : gb604 ≠ gb605)); have n6_ := Aside0.mk ((by rw [hg]; exact Nat.ne_of_gt (blk_lt (g := gb604) (o := .cells #[.int .i64 a0_0, .int .i64 a0_1] 23 (0, 0)) bkx) : gb605 ≠ gb604)); clear BK604; clear HB; have BK604 := n0_; have HB := n1_; have BK605 := n2_; have GW605 := n3_; have GE605 := n4_; have NB604_605 := n5_; have NB605_604 := n6_; clear n0_ n1_ n2_ n3_ n4_ n5_ n6_; clear hb hbox hg; have hnb10 := NB604_605.out; have hnc10 := NB605_604.out; have hcz11_0 : w9.cell? ⟨gb604, 0, none⟩ = some (.int .i64 a0_0) := (blk_cell BK604.out 0).trans rfl; have hcz11_1 : w9.cell? ⟨gb604, 1, none⟩ = some (.int .i64 a0_1) := (blk_cell BK604.out 1).trans rfl; have hfz11_0 := blk_frozen BK604.out 0; have hfz11_1 := blk_frozen BK604.out 1) | ((with_reducible refine gate_dst (N := 23) rfl ?_); refine Kd.R_lit k23 _ 23 ?hg (N := 23) ?hd (xs := ([(⟨a0_0, a0_1⟩ : S23)] : List (S23))) (inner := [.int .i64 a0_0, .int .i64 a0_1]) (ok := fun _ => True) (okp := fun _ => True) ?hr ?hp (fun _ hk => hk) trivial (Below.refl _ _) (Nat.le_refl _) (by simp) ?_; (case hd => rfl); (case hg => rfl); (case hr => first | (go_simp; done) | (go_simp; rfl)); (case hp => exact (Reps.c2 (show Kd.M k23 _ _ _ (⟨a0_0, a0_1⟩ : S23) [.int .i64 a0_0, .int .i64 a0_1] from (k23_mkM _ _ _ (⟨a0_0, a0_1⟩ : S23) )) (Reps.none _ _))); intro v607 w12 ho13 hb hg_ hnew_; clear hg_ hnew_; (first | rw [← Ny606.out] at ho13 | (simp only [Int.reduceToNat] at ho13; rw [← Ny606.out] at ho13)); have n0_ := Aside0.mk (Kd.R_lower (Kd.R_newB (Kd.R_newB ho13 (g := gb604) (o := .cells #[.int .i64 a0_0, .int .i64 a0_1] 23 (0, 0)) bkx) (g := gb605) (o := .cells #[.int .i64 0, .int .i64 0] 23 (0, 0)) bkx) (below_size blx)); have n1_ := Aside0.mk (blk_below (g := gb604) (o := .cells #[.int .i64 a0_0, .int .i64 a0_1] 23 (0, 0)) bkx hb); have n2_ := Aside0.mk (blk_below (g := gb605) (o := .cells #[.int .i64 0, .int .i64 0] 23 (0, 0)) bkx hb); have n3_ := Aside0.mk (below_step blx hb); clear BK604; clear BK605; clear HB; have HO608 := n0_; have BK604 := n1_; have BK605 := n2_; have HB := n3_; clear n0_ n1_ n2_ n3_; clear hb ho13; obtain ⟨Ao14, co14, eo14⟩ := Kd.R_slice HO608.out; subst eo14) | ((with_reducible refine gate_callee (f := 65) rfl ?_); refine goesL_ (some 24) rfl rfl Tryd.func65 (by kernel_rfl) rfl #[.slice Ao14 y606.length co14] rfl agx ?_; (with_reducible refine (money_seen.calls k _ _ y606 t609 t610 true _ ?side1 ?side2 A5.out (by first | exact HG0.out | exact Kd.C_below HG0.out blx)).mono ?_); (case side1 => repeat (first | exact (Kd.R_reads' HO608.out).2.2 | (with_reducible refine Kd.C_alloc ?_ _) | (with_reducible refine Kd.C_drewN ?_ _) | (with_reducible refine Kd.C_drew ?_))); (case side2 => exact (Kd.R_reads' HO608.out).2.1); rintro e w15 ⟨rfl, hb⟩; refine ⟨_, rfl, ?_⟩; have n0_ := Aside0.mk (Kd.R_below (by (with_reducible repeat (first | apply Kd.R_alloc | apply Kd.R_drewN | apply Kd.R_drew)); exact HO608.out) hb); have n1_ := Aside0.mk (blk_below (g := gb604) (o := .cells #[.int .i64 a0_0, .int .i64 a0_1] 23 (0, 0)) bkx hb); have n2_ := Aside0.mk (blk_below (g := gb605) (o := .cells #[.int .i64 0, .int .i64 0] 23 (0, 0)) bkx hb); have n3_ := Aside0.mk (below_step blx hb); clear HO608; clear BK604; clear BK605; clear HB; have HO608 := n0_; have BK604 := n1_; have BK605 := n2_; have HB := n3_; clear n0_ n1_ n2_ n3_; (try clear hb); (try clear hb2); (try clear hk); (try clear hi)) | ((with_reducible refine gate_dst (N := 9) rfl ?_); refine box_event ?hg (N := 9) ?hd (cs := #[.int .i64 0, .int .i64 0]) (t := 23) ?hr ?_; (case hd => rfl); (case hg => rfl); (case hr => first | (go_simp; done) | (go_simp; rfl)); intro gb612 hg w16 hbox hb; have n0_ := Aside0.mk (Kd.R_below (Kd.R_elderB (by (with_reducible repeat (first | apply Kd.R_alloc | apply Kd.R_drewN | apply Kd.R_drew)); exact HO608.out) gb612 (Nat.le_of_eq hg.symm)) hb); have n1_ := Aside0.mk (blk_below (g := gb604) (o := .cells #[.int .i64 a0_0, .int .i64 a0_1] 23 (0, 0)) bkx hb); have n2_ := Aside0.mk (blk_below (g := gb605) (o := .cells #[.int .i64 0, .int .i64 0] 23 (0, 0)) bkx hb); have n3_ := Aside0.mk (below_step blx hb); have n4_ := Aside0.mk (hbox); have n5_ := Aside0.mk ((by rw [hg]; exact (below_size blx) : w.heap.size ≤ gb612)); have n6_ := Aside0.mk ((by rw [hg]; exact (below_size blx) : w.heap.size ≤ gb612)); have n7_ := Aside0.mk ((by rw [hg]; exact Nat.ne_of_lt (blk_lt (g := gb604) (o := .cells #[.int .i64 a0_0, .int .i64 a0_1] 23 (0, 0)) bkx) : gb604 ≠ gb612)); have n8_ := Aside0.mk ((by rw [hg]; exact Nat.ne_of_gt (blk_lt (g := gb604) (o := .cells #[.int .i64 a0_0, .int .i64 a0_1] 23 (0, 0)) bkx) : gb612 ≠ gb604)); have n9_ := Aside0.mk ((by rw [hg]; exact Nat.ne_of_lt (blk_lt (g := gb605) (o := .cells #[.int .i64 0, .int .i64 0] 23 (0, 0)) bkx) : gb605 ≠ gb612)); have n10_ := Aside0.mk ((by rw [hg]; exact Nat.ne_of_gt (blk_lt (g := gb605) (o := .cells #[.int .i64 0, .int .i64 0] 23 (0, 0)) bkx) : gb612 ≠ gb605)); clear HO608; clear BK604; clear BK605; clear HB; have HO608 := n0_; have BK604 := n1_; have BK605 := n2_; have HB := n3_; have BK612 := n4_; have GW612 := n5_; have GE612 := n6_; have NB604_612 := n7_; have NB612_604 := n8_; have NB605_612 := n9_; have NB612_605 := n10_; clear n0_ n1_ n2_ n3_ n4_ n5_ n6_ n7_ n8_ n9_ n10_; clear hb hbox hg; have hnb17 := NB612_604.out; have hnc17 := NB604_612.out; have hnb18 := NB612_605.out; have hnc18 := NB605_612.out; have hcz19_0 : w16.cell? ⟨gb612, 0, none⟩ = some (.int .i64 0) := (blk_cell BK612.out 0).trans rfl; have hcz19_1 : w16.cell? ⟨gb612, 1, none⟩ = some (.int .i64 0) := (blk_cell BK612.out 1).trans rfl; have hfz19_0 := blk_frozen BK612.out 0; have hfz19_1 := blk_frozen BK612.out 1))
  (try simp only [Act.put, List.setIfInBounds_toArray, List.set_cons_zero, List.set_cons_succ])
  go_cut [53] (fun v53 wc => ∃ (kq : Nat) (x53_6 : Bool), v53 = .bool x53_6 ∧ Aside0 (money_Scale.j0 kq a1 a2 a3 x53_6 a0_0 a0_1 = some (r1, r2)) ∧ Aside0 (kq ≤ k) ∧ Aside0 (wc.heap[gb604]? = some (.cells #[.int .i64 a0_0, .int .i64 a0_1] 23 (0, 0))) ∧ Aside0 (wc.heap[gb605]? = some (.cells #[.int .i64 0, .int .i64 0] 23 (0, 0))) ∧ Aside0 (wc.heap[gb612]? = some (.cells #[.int .i64 t609, .int .i64 t610] 23 (0, 0))) ∧ Aside0 (Below w.heap.size w wc))
  case first =>
   have H := HC7.out
   clear HC7
   by_cases c20 : a0_0 = 1
   ·rw [if_pos c20] at H
    have c20b0 : (a0_0 == 1) = true := beq_iff_eq.mpr c20
    have c20b1 : (a0_0 != 1) = false := bne_eq_false_iff_eq.mpr c20
    clear c20
    (first | rw [c20b0] | (simp only [i64_w, i32_w]; rw [c20b0]) | skip)
    by_cases c21 : a1 < (-1000000000)
    ·rw [if_pos c21] at H
     have c21b0 : decide (a1 < (-1000000000)) = true := decide_eq_true c21
     clear c21
     have H' := Aside0.mk H
     clear H
     have hnb22 := NB604_605.out
     have hnc22 := NB605_604.out
     have hnb23 := NB604_612.out
     have hnc23 := NB612_604.out
     have hcz24_0 : w16.cell? ⟨gb604, 0, none⟩ = some (.int .i64 a0_0) := (blk_cell BK604.out 0).trans rfl
     have hcz24_1 : w16.cell? ⟨gb604, 1, none⟩ = some (.int .i64 a0_1) := (blk_cell BK604.out 1).trans rfl
     have hfz24_0 := blk_frozen BK604.out 0
     have hfz24_1 := blk_frozen BK604.out 1
     go_wp2
     go_meet
     case rel => exact ⟨_, (true), (by first | rfl | (simp; done) | (simp [*]; done)), H', ⟨by first | omega | exact Nat.le_refl _⟩, ⟨bkx⟩, ⟨bkx⟩, ⟨by (with_reducible repeat (first | refine blk_drewN ?_ _ | refine blk_drew ?_ | refine blk_alloc ?_ _)); refine blk_put (cs := #[.int .i64 t609, .int .i64 0]) ?_ 1 _ rfl; (with_reducible repeat (first | refine blk_drewN ?_ _ | refine blk_drew ?_ | refine blk_alloc ?_ _)); refine blk_put (cs := #[.int .i64 0, .int .i64 0]) ?_ 0 _ rfl; (with_reducible repeat (first | refine blk_drewN ?_ _ | refine blk_drew ?_ | refine blk_alloc ?_ _)); exact BK612.out⟩, ⟨blx⟩⟩
    ·rw [if_neg c21] at H
     have c21b0 : decide (a1 < (-1000000000)) = false := decide_eq_false c21
     clear c21
     by_cases c25 : a1 > 1000000000
     ·rw [if_pos c25] at H
      have c25b0 : decide (1000000000 < a1) = true := decide_eq_true c25
      clear c25
      have H' := Aside0.mk H
      clear H
      have hnb26 := NB604_605.out
      have hnc26 := NB605_604.out
      have hnb27 := NB604_612.out
      have hnc27 := NB612_604.out
      have hcz28_0 : w16.cell? ⟨gb604, 0, none⟩ = some (.int .i64 a0_0) := (blk_cell BK604.out 0).trans rfl
      have hcz28_1 : w16.cell? ⟨gb604, 1, none⟩ = some (.int .i64 a0_1) := (blk_cell BK604.out 1).trans rfl
      have hfz28_0 := blk_frozen BK604.out 0
      have hfz28_1 := blk_frozen BK604.out 1
      go_wp2
      go_meet
      case rel => exact ⟨_, (true), (by first | rfl | (simp; done) | (simp [*]; done)), H', ⟨by first | omega | exact Nat.le_refl _⟩, ⟨bkx⟩, ⟨bkx⟩, ⟨by (with_reducible repeat (first | refine blk_drewN ?_ _ | refine blk_drew ?_ | refine blk_alloc ?_ _)); refine blk_put (cs := #[.int .i64 t609, .int .i64 0]) ?_ 1 _ rfl; (with_reducible repeat (first | refine blk_drewN ?_ _ | refine blk_drew ?_ | refine blk_alloc ?_ _)); refine blk_put (cs := #[.int .i64 0, .int .i64 0]) ?_ 0 _ rfl; (with_reducible repeat (first | refine blk_drewN ?_ _ | refine blk_drew ?_ | refine blk_alloc ?_ _)); exact BK612.out⟩, ⟨blx⟩⟩
     ·rw [if_neg c25] at H
      have c25b0 : decide (1000000000 < a1) = false := decide_eq_false c25
      clear c25
      by_cases c29 : a2 < 1
      ·rw [if_pos c29] at H
       have c29b0 : decide (a2 < 1) = true := decide_eq_true c29
       clear c29
       have H' := Aside0.mk H
       clear H
       have hnb30 := NB604_605.out
       have hnc30 := NB605_604.out
       have hnb31 := NB604_612.out
       have hnc31 := NB612_604.out
       have hcz32_0 : w16.cell? ⟨gb604, 0, none⟩ = some (.int .i64 a0_0) := (blk_cell BK604.out 0).trans rfl
       have hcz32_1 : w16.cell? ⟨gb604, 1, none⟩ = some (.int .i64 a0_1) := (blk_cell BK604.out 1).trans rfl
       have hfz32_0 := blk_frozen BK604.out 0
       have hfz32_1 := blk_frozen BK604.out 1
       go_wp2
       go_meet
       case rel => exact ⟨_, (true), (by first | rfl | (simp; done) | (simp [*]; done)), H', ⟨by first | omega | exact Nat.le_refl _⟩, ⟨bkx⟩, ⟨bkx⟩, ⟨by (with_reducible repeat (first | refine blk_drewN ?_ _ | refine blk_drew ?_ | refine blk_alloc ?_ _)); refine blk_put (cs := #[.int .i64 t609, .int .i64 0]) ?_ 1 _ rfl; (with_reducible repeat (first | refine blk_drewN ?_ _ | refine blk_drew ?_ | refine blk_alloc ?_ _)); refine blk_put (cs := #[.int .i64 0, .int .i64 0]) ?_ 0 _ rfl; (with_reducible repeat (first | refine blk_drewN ?_ _ | refine blk_drew ?_ | refine blk_alloc ?_ _)); exact BK612.out⟩, ⟨blx⟩⟩
      ·rw [if_neg c29] at H
       have c29b0 : decide (a2 < 1) = false := decide_eq_false c29
       clear c29
       by_cases c33 : a2 > 1000000000
       ·rw [if_pos c33] at H
        have c33b0 : decide (1000000000 < a2) = true := decide_eq_true c33
        clear c33
        have H' := Aside0.mk H
        clear H
        have hnb34 := NB604_605.out
        have hnc34 := NB605_604.out
        have hnb35 := NB604_612.out
        have hnc35 := NB612_604.out
        have hcz36_0 : w16.cell? ⟨gb604, 0, none⟩ = some (.int .i64 a0_0) := (blk_cell BK604.out 0).trans rfl
        have hcz36_1 : w16.cell? ⟨gb604, 1, none⟩ = some (.int .i64 a0_1) := (blk_cell BK604.out 1).trans rfl
        have hfz36_0 := blk_frozen BK604.out 0
        have hfz36_1 := blk_frozen BK604.out 1
        go_wp2
        go_meet
        case rel => exact ⟨_, (true), (by first | rfl | (simp; done) | (simp [*]; done)), H', ⟨by first | omega | exact Nat.le_refl _⟩, ⟨bkx⟩, ⟨bkx⟩, ⟨by (with_reducible repeat (first | refine blk_drewN ?_ _ | refine blk_drew ?_ | refine blk_alloc ?_ _)); refine blk_put (cs := #[.int .i64 t609, .int .i64 0]) ?_ 1 _ rfl; (with_reducible repeat (first | refine blk_drewN ?_ _ | refine blk_drew ?_ | refine blk_alloc ?_ _)); refine blk_put (cs := #[.int .i64 0, .int .i64 0]) ?_ 0 _ rfl; (with_reducible repeat (first | refine blk_drewN ?_ _ | refine blk_drew ?_ | refine blk_alloc ?_ _)); exact BK612.out⟩, ⟨blx⟩⟩
       ·rw [if_neg c33] at H
        have c33b0 : decide (1000000000 < a2) = false := decide_eq_false c33
        clear c33
        replace H := Option.bind_eq_some_iff.mp H
        obtain ⟨t613, A370, H⟩ := H
        replace H : (money_Scale.j0 k a1 a2 a3 (!t613) a0_0 a0_1) = some (r1, r2) := H
        have A37 := Aside0.mk A370
        clear A370
        have H' := Aside0.mk H
        clear H
        have hnb38 := NB604_605.out
        have hnc38 := NB605_604.out
        have hnb39 := NB604_612.out
        have hnc39 := NB612_604.out
        have hcz40_0 : w16.cell? ⟨gb604, 0, none⟩ = some (.int .i64 a0_0) := (blk_cell BK604.out 0).trans rfl
        have hcz40_1 : w16.cell? ⟨gb604, 1, none⟩ = some (.int .i64 a0_1) := (blk_cell BK604.out 1).trans rfl
        have hfz40_0 := blk_frozen BK604.out 0
        have hfz40_1 := blk_frozen BK604.out 1
        go_wp2_with (first | (go_at_call 66; (with_reducible refine (money_modes.calls a3 t613 _ A37.out).mono ?_); rintro e w' ⟨rfl, ⟨nd, rfl⟩⟩))
        go_meet
        case rel => exact ⟨_, (!t613), (by first | rfl | (simp; done) | (simp [*]; done)), H', ⟨by first | omega | exact Nat.le_refl _⟩, ⟨bkx⟩, ⟨bkx⟩, ⟨by (with_reducible repeat (first | refine blk_drewN ?_ _ | refine blk_drew ?_ | refine blk_alloc ?_ _)); refine blk_put (cs := #[.int .i64 t609, .int .i64 0]) ?_ 1 _ rfl; (with_reducible repeat (first | refine blk_drewN ?_ _ | refine blk_drew ?_ | refine blk_alloc ?_ _)); refine blk_put (cs := #[.int .i64 0, .int .i64 0]) ?_ 0 _ rfl; (with_reducible repeat (first | refine blk_drewN ?_ _ | refine blk_drew ?_ | refine blk_alloc ?_ _)); exact BK612.out⟩, ⟨blx⟩⟩
   ·rw [if_neg c20] at H
    have c20b0 : (a0_0 == 1) = false := beq_eq_false_iff_ne.mpr c20
    have c20b1 : (a0_0 != 1) = true := bne_iff_ne.mpr c20
    (first | rw [c20b0] | (simp only [i64_w, i32_w]; rw [c20b0]) | skip)
    have H' := Aside0.mk H
    clear H
    have hnb41 := NB604_605.out
    have hnc41 := NB605_604.out
    have hnb42 := NB604_612.out
    have hnc42 := NB612_604.out
    have hcz43_0 : w16.cell? ⟨gb604, 0, none⟩ = some (.int .i64 a0_0) := (blk_cell BK604.out 0).trans rfl
    have hcz43_1 : w16.cell? ⟨gb604, 1, none⟩ = some (.int .i64 a0_1) := (blk_cell BK604.out 1).trans rfl
    have hfz43_0 := blk_frozen BK604.out 0
    have hfz43_1 := blk_frozen BK604.out 1
    go_wp2
    go_meet
    case rel => exact ⟨_, (true), (by first | rfl | (simp; done) | (simp [*]; done)), H', ⟨by first | omega | exact Nat.le_refl _⟩, ⟨bkx⟩, ⟨bkx⟩, ⟨by (with_reducible repeat (first | refine blk_drewN ?_ _ | refine blk_drew ?_ | refine blk_alloc ?_ _)); refine blk_put (cs := #[.int .i64 t609, .int .i64 0]) ?_ 1 _ rfl; (with_reducible repeat (first | refine blk_drewN ?_ _ | refine blk_drew ?_ | refine blk_alloc ?_ _)); refine blk_put (cs := #[.int .i64 0, .int .i64 0]) ?_ 0 _ rfl; (with_reducible repeat (first | refine blk_drewN ?_ _ | refine blk_drew ?_ | refine blk_alloc ?_ _)); exact BK612.out⟩, ⟨blx⟩⟩
  case rest =>
   clear HC7
   try clear c1
   try clear c2
   try clear p2
   try clear c3
   try clear c4
   try clear c6
   try clear c10
   try clear c17
   try clear c18
   try clear c20
   try clear c20b0
   try clear c20b1
   try clear c21
   try clear c21b0
   try clear c22
   try clear c23
   try clear c25
   try clear c25b0
   try clear c26
   try clear c27
   try clear c29
   try clear c29b0
   try clear c30
   try clear c31
   try clear c33
   try clear c33b0
   try clear c34
   try clear c35
   try clear c38
   try clear c39
   try clear c41
   try clear c42
   try clear hcz11_0
   try clear hcz11_1
   try clear hcz19_0
   try clear hcz19_1
   try clear hcz24_0
   try clear hcz24_1
   try clear hcz28_0
   try clear hcz28_1
   try clear hcz32_0
   try clear hcz32_1
   try clear hcz36_0
   try clear hcz36_1
   try clear hcz40_0
   try clear hcz40_1
   try clear hcz43_0
   try clear hcz43_1
   try clear hfz11_0
   try clear hfz11_1
   try clear hfz19_0
   try clear hfz19_1
   try clear hfz24_0
   try clear hfz24_1
   try clear hfz28_0
   try clear hfz28_1
   try clear hfz32_0
   try clear hfz32_1
   try clear hfz36_0
   try clear hfz36_1
   try clear hfz40_0
   try clear hfz40_1
   try clear hfz43_0
   try clear hfz43_1
   obtain ⟨kq, x53_6, rfl, HA, HJ6, BK604, BK605, BK612, HB⟩ := hcut
   cases kq with
   | zero => exact absurd HA.out (by simp [money_Scale.j0])
   | succ kj6 =>
    have H := HA.out
    clear HA
    simp only [money_Scale.j0] at H
    by_cases c44 : x53_6 = true
    ·subst c44
     have H1 : ((money_fault.f 5).bind fun bt614 => (some (bt614.1, bt614.2))) = some (r1, r2) := by rw [if_pos rfl] at H; exact H
     clear H
     have H := H1
     clear H1
     replace H := Option.bind_eq_some_iff.mp H
     obtain ⟨⟨t614, t615⟩, A450, H⟩ := H
     replace H : (some (t614, t615)) = some (r1, r2) := H
     have A45 := Aside0.mk A450
     clear A450
     simp only [Option.some.injEq, Prod.mk.injEq] at H
     obtain ⟨rfl, rfl⟩ := H
     go_wp2_with (first | ((with_reducible refine gate_callee (f := 59) rfl ?_); refine goesL_ (some 54) rfl rfl Tryd.func59 (by kernel_rfl) rfl #[.int .i64 5] rfl agx ?_; (with_reducible refine (money_fault.calls 5 t614 t615 _ A45.out).mono ?_); rintro e w46 ⟨rfl, hb⟩; refine ⟨_, rfl, ?_⟩; have n0_ := Aside0.mk (blk_below (g := gb604) (o := .cells #[.int .i64 a0_0, .int .i64 a0_1] 23 (0, 0)) bkx hb); have n1_ := Aside0.mk (blk_below (g := gb605) (o := .cells #[.int .i64 0, .int .i64 0] 23 (0, 0)) bkx hb); have n2_ := Aside0.mk (blk_below (g := gb612) (o := .cells #[.int .i64 t609, .int .i64 t610] 23 (0, 0)) bkx hb); have n3_ := Aside0.mk (below_step blx hb); clear BK604; clear BK605; clear BK612; clear HB; have BK604 := n0_; have BK605 := n1_; have BK612 := n2_; have HB := n3_; clear n0_ n1_ n2_ n3_; (try clear hb); (try clear hb2); (try clear hk); (try clear hi); have hnb47 := NB605_604.out; have hnc47 := NB604_605.out; have hnb48 := NB605_612.out; have hnc48 := NB612_605.out; have hcz49_0 : w46.cell? ⟨gb605, 0, none⟩ = some (.int .i64 0) := (blk_cell BK605.out 0).trans rfl; have hcz49_1 : w46.cell? ⟨gb605, 1, none⟩ = some (.int .i64 0) := (blk_cell BK605.out 1).trans rfl; have hfz49_0 := blk_frozen BK605.out 0; have hfz49_1 := blk_frozen BK605.out 1))
     refine bodyPost_ret (results_cell_row rfl _ _ gb605 23 #[.int .i64 t614, .int .i64 t615] (0, 0) _ rfl (by (with_reducible repeat (first | refine blk_drewN ?_ _ | refine blk_drew ?_ | refine blk_alloc ?_ _)); refine blk_put (cs := #[.int .i64 t614, .int .i64 0]) ?_ 1 _ rfl; (with_reducible repeat (first | refine blk_drewN ?_ _ | refine blk_drew ?_ | refine blk_alloc ?_ _)); refine blk_put (cs := #[.int .i64 0, .int .i64 0]) ?_ 0 _ rfl; (with_reducible repeat (first | refine blk_drewN ?_ _ | refine blk_drew ?_ | refine blk_alloc ?_ _)); exact BK605.out) Tryd.underlying23 rfl (by kernel_rfl)) rfl ?_
     exact ⟨by first | rfl | (simp [errW_none, errW_some] <;> rfl) | (simp [*, errW_none, errW_some] <;> rfl), blx⟩
    ·replace c44 := Bool.eq_false_iff.mpr c44
     subst c44
     have H1 : ((money_amount.f a0_1).bind fun bt616 => ((money_amount.f a1).bind fun bt618 => ((bits_Mul64.f bt616.1 bt618.1).bind fun bt620 => (if bt620.1 ≥ (IntKind.u64.wrap (a2)) then ((money_fault.f 1).bind fun bt622 => (some (bt622.1, bt622.2))) else ((bits_Div64.f kj6 bt620.1 bt620.2 (IntKind.u64.wrap (a2))).bind fun bt624 => ((money_rounded.f kj6 bt624.1 bt624.2 (IntKind.u64.wrap (a2)) (bt616.2 != bt618.2) a3).bind fun bt626 => (if bt626.2 = true then ((money_cents.f bt626.1).bind fun bt628 => (some (bt628.1, bt628.2))) else ((money_fault.f 1).bind fun bt630 => (some (bt630.1, bt630.2)))))))))) = some (r1, r2) := by rw [if_neg (show ¬ (false = true) by decide)] at H; exact H
     clear H
     have H := H1
     clear H1
     replace H := Option.bind_eq_some_iff.mp H
     obtain ⟨⟨t616, t617⟩, A500, H⟩ := H
     replace H : ((money_amount.f a1).bind fun bt618 => ((bits_Mul64.f t616 bt618.1).bind fun bt620 => (if bt620.1 ≥ (IntKind.u64.wrap (a2)) then ((money_fault.f 1).bind fun bt622 => (some (bt622.1, bt622.2))) else ((bits_Div64.f kj6 bt620.1 bt620.2 (IntKind.u64.wrap (a2))).bind fun bt624 => ((money_rounded.f kj6 bt624.1 bt624.2 (IntKind.u64.wrap (a2)) (t617 != bt618.2) a3).bind fun bt626 => (if bt626.2 = true then ((money_cents.f bt626.1).bind fun bt628 => (some (bt628.1, bt628.2))) else ((money_fault.f 1).bind fun bt630 => (some (bt630.1, bt630.2))))))))) = some (r1, r2) := H
     have A50 := Aside0.mk A500
     clear A500
     replace H := Option.bind_eq_some_iff.mp H
     obtain ⟨⟨t618, t619⟩, A510, H⟩ := H
     replace H : ((bits_Mul64.f t616 t618).bind fun bt620 => (if bt620.1 ≥ (IntKind.u64.wrap (a2)) then ((money_fault.f 1).bind fun bt622 => (some (bt622.1, bt622.2))) else ((bits_Div64.f kj6 bt620.1 bt620.2 (IntKind.u64.wrap (a2))).bind fun bt624 => ((money_rounded.f kj6 bt624.1 bt624.2 (IntKind.u64.wrap (a2)) (t617 != t619) a3).bind fun bt626 => (if bt626.2 = true then ((money_cents.f bt626.1).bind fun bt628 => (some (bt628.1, bt628.2))) else ((money_fault.f 1).bind fun bt630 => (some (bt630.1, bt630.2)))))))) = some (r1, r2) := H
     have A51 := Aside0.mk A510
     clear A510
     replace H := Option.bind_eq_some_iff.mp H
     obtain ⟨⟨t620, t621⟩, A520, H⟩ := H
     replace H : (if t620 ≥ (IntKind.u64.wrap (a2)) then ((money_fault.f 1).bind fun bt622 => (some (bt622.1, bt622.2))) else ((bits_Div64.f kj6 t620 t621 (IntKind.u64.wrap (a2))).bind fun bt624 => ((money_rounded.f kj6 bt624.1 bt624.2 (IntKind.u64.wrap (a2)) (t617 != t619) a3).bind fun bt626 => (if bt626.2 = true then ((money_cents.f bt626.1).bind fun bt628 => (some (bt628.1, bt628.2))) else ((money_fault.f 1).bind fun bt630 => (some (bt630.1, bt630.2))))))) = some (r1, r2) := H
     have A52 := Aside0.mk A520
     clear A520
     by_cases c53 : t620 ≥ (IntKind.u64.wrap (a2))
     ·rw [if_pos c53] at H
      have c53b0 : decide ((IntKind.u64.wrap (a2)) ≤ t620) = true := decide_eq_true c53
      clear c53
      replace H := Option.bind_eq_some_iff.mp H
      obtain ⟨⟨t622, t623⟩, A540, H⟩ := H
      replace H : (some (t622, t623)) = some (r1, r2) := H
      have A54 := Aside0.mk A540
      clear A540
      simp only [Option.some.injEq, Prod.mk.injEq] at H
      obtain ⟨rfl, rfl⟩ := H
      have hnb55 := NB604_605.out
      have hnc55 := NB605_604.out
      have hnb56 := NB604_612.out
      have hnc56 := NB612_604.out
      have hcz57_0 : wc.cell? ⟨gb604, 0, none⟩ = some (.int .i64 a0_0) := (blk_cell BK604.out 0).trans rfl
      have hcz57_1 : wc.cell? ⟨gb604, 1, none⟩ = some (.int .i64 a0_1) := (blk_cell BK604.out 1).trans rfl
      have hfz57_0 := blk_frozen BK604.out 0
      have hfz57_1 := blk_frozen BK604.out 1
      go_wp2_with (first | ((with_reducible refine gate_callee (f := 67) rfl ?_); refine goesL_ (some 58) rfl rfl Tryd.func67 (by kernel_rfl) rfl #[.int .i64 a0_1] rfl agx ?_; (with_reducible refine (money_amount.calls a0_1 t616 t617 _ A50.out).mono ?_); rintro e w' ⟨rfl, ⟨nd, rfl⟩⟩; refine ⟨_, rfl, ?_⟩; (try (rw [drewN_self wc]; generalize hq_ : World.drewN wc _ = wc; have n0_ : Aside0 (wc.heap[gb604]? = some (.cells #[.int .i64 a0_0, .int .i64 a0_1] 23 (0, 0))) := ⟨by rw [← hq_]; exact bkx⟩; have n1_ : Aside0 (wc.heap[gb605]? = some (.cells #[.int .i64 0, .int .i64 0] 23 (0, 0))) := ⟨by rw [← hq_]; exact bkx⟩; have n2_ : Aside0 (wc.heap[gb612]? = some (.cells #[.int .i64 t609, .int .i64 t610] 23 (0, 0))) := ⟨by rw [← hq_]; exact bkx⟩; have n3_ : Aside0 (Below w.heap.size w wc) := ⟨by rw [← hq_]; exact blx⟩; clear BK604 BK605 BK612 HB hq_; have BK604 := n0_; have BK605 := n1_; have BK612 := n2_; have HB := n3_; clear n0_ n1_ n2_ n3_))) | ((with_reducible refine gate_callee (f := 67) rfl ?_); refine goesL_ (some 63) rfl rfl Tryd.func67 (by kernel_rfl) rfl #[.int .i64 a1] rfl agx ?_; (with_reducible refine (money_amount.calls a1 t618 t619 _ A51.out).mono ?_); rintro e w' ⟨rfl, ⟨nd, rfl⟩⟩; refine ⟨_, rfl, ?_⟩; (try (rw [drewN_self wc]; generalize hq_ : World.drewN wc _ = wc; have n0_ : Aside0 (wc.heap[gb604]? = some (.cells #[.int .i64 a0_0, .int .i64 a0_1] 23 (0, 0))) := ⟨by rw [← hq_]; exact bkx⟩; have n1_ : Aside0 (wc.heap[gb605]? = some (.cells #[.int .i64 0, .int .i64 0] 23 (0, 0))) := ⟨by rw [← hq_]; exact bkx⟩; have n2_ : Aside0 (wc.heap[gb612]? = some (.cells #[.int .i64 t609, .int .i64 t610] 23 (0, 0))) := ⟨by rw [← hq_]; exact bkx⟩; have n3_ : Aside0 (Below w.heap.size w wc) := ⟨by rw [← hq_]; exact blx⟩; clear BK604 BK605 BK612 HB hq_; have BK604 := n0_; have BK605 := n1_; have BK612 := n2_; have HB := n3_; clear n0_ n1_ n2_ n3_))) | ((with_reducible refine gate_callee (f := 75) rfl ?_); refine goesL_ (some 69) rfl rfl Tryd.func75 (by kernel_rfl) rfl #[.int .u64 t616, .int .u64 t618] rfl agx ?_; (with_reducible refine (bits_Mul64.calls t616 t618 t620 t621 _ A52.out).mono ?_); rintro e w' ⟨rfl, ⟨nd, rfl⟩⟩; refine ⟨_, rfl, ?_⟩; (try (rw [drewN_self wc]; generalize hq_ : World.drewN wc _ = wc; have n0_ : Aside0 (wc.heap[gb604]? = some (.cells #[.int .i64 a0_0, .int .i64 a0_1] 23 (0, 0))) := ⟨by rw [← hq_]; exact bkx⟩; have n1_ : Aside0 (wc.heap[gb605]? = some (.cells #[.int .i64 0, .int .i64 0] 23 (0, 0))) := ⟨by rw [← hq_]; exact bkx⟩; have n2_ : Aside0 (wc.heap[gb612]? = some (.cells #[.int .i64 t609, .int .i64 t610] 23 (0, 0))) := ⟨by rw [← hq_]; exact bkx⟩; have n3_ : Aside0 (Below w.heap.size w wc) := ⟨by rw [← hq_]; exact blx⟩; clear BK604 BK605 BK612 HB hq_; have BK604 := n0_; have BK605 := n1_; have BK612 := n2_; have HB := n3_; clear n0_ n1_ n2_ n3_))) | ((with_reducible refine gate_callee (f := 59) rfl ?_); refine goesL_ (some 76) rfl rfl Tryd.func59 (by kernel_rfl) rfl #[.int .i64 1] rfl agx ?_; (with_reducible refine (money_fault.calls 1 t622 t623 _ A54.out).mono ?_); rintro e w58 ⟨rfl, hb⟩; refine ⟨_, rfl, ?_⟩; have n0_ := Aside0.mk (blk_below (g := gb604) (o := .cells #[.int .i64 a0_0, .int .i64 a0_1] 23 (0, 0)) bkx hb); have n1_ := Aside0.mk (blk_below (g := gb605) (o := .cells #[.int .i64 0, .int .i64 0] 23 (0, 0)) bkx hb); have n2_ := Aside0.mk (blk_below (g := gb612) (o := .cells #[.int .i64 t609, .int .i64 t610] 23 (0, 0)) bkx hb); have n3_ := Aside0.mk (below_step blx hb); clear BK604; clear BK605; clear BK612; clear HB; have BK604 := n0_; have BK605 := n1_; have BK612 := n2_; have HB := n3_; clear n0_ n1_ n2_ n3_; (try clear hb); (try clear hb2); (try clear hk); (try clear hi); have hnb59 := NB605_612.out; have hnc59 := NB612_605.out; have hcz60_0 : w58.cell? ⟨gb605, 0, none⟩ = some (.int .i64 0) := (blk_cell BK605.out 0).trans rfl; have hcz60_1 : w58.cell? ⟨gb605, 1, none⟩ = some (.int .i64 0) := (blk_cell BK605.out 1).trans rfl; have hfz60_0 := blk_frozen BK605.out 0; have hfz60_1 := blk_frozen BK605.out 1))
      refine bodyPost_ret (results_cell_row rfl _ _ gb605 23 #[.int .i64 t622, .int .i64 t623] (0, 0) _ rfl (by (with_reducible repeat (first | refine blk_drewN ?_ _ | refine blk_drew ?_ | refine blk_alloc ?_ _)); refine blk_put (cs := #[.int .i64 t622, .int .i64 0]) ?_ 1 _ rfl; (with_reducible repeat (first | refine blk_drewN ?_ _ | refine blk_drew ?_ | refine blk_alloc ?_ _)); refine blk_put (cs := #[.int .i64 0, .int .i64 0]) ?_ 0 _ rfl; (with_reducible repeat (first | refine blk_drewN ?_ _ | refine blk_drew ?_ | refine blk_alloc ?_ _)); exact BK605.out) Tryd.underlying23 rfl (by kernel_rfl)) rfl ?_
      exact ⟨by first | rfl | (simp [errW_none, errW_some] <;> rfl) | (simp [*, errW_none, errW_some] <;> rfl), blx⟩
     ·rw [if_neg c53] at H
      have c53b0 : decide ((IntKind.u64.wrap (a2)) ≤ t620) = false := decide_eq_false c53
      clear c53
      replace H := Option.bind_eq_some_iff.mp H
      obtain ⟨⟨t624, t625⟩, A610, H⟩ := H
      replace H : ((money_rounded.f kj6 t624 t625 (IntKind.u64.wrap (a2)) (t617 != t619) a3).bind fun bt626 => (if bt626.2 = true then ((money_cents.f bt626.1).bind fun bt628 => (some (bt628.1, bt628.2))) else ((money_fault.f 1).bind fun bt630 => (some (bt630.1, bt630.2))))) = some (r1, r2) := H
      have A61 := Aside0.mk A610
      clear A610
      replace H := Option.bind_eq_some_iff.mp H
      obtain ⟨⟨t626, t627⟩, A620, H⟩ := H
      replace H : (if t627 = true then ((money_cents.f t626).bind fun bt628 => (some (bt628.1, bt628.2))) else ((money_fault.f 1).bind fun bt630 => (some (bt630.1, bt630.2)))) = some (r1, r2) := H
      have A62 := Aside0.mk A620
      clear A620
      by_cases c63 : t627 = true
      ·subst c63
       have H1 : ((money_cents.f t626).bind fun bt628 => (some (bt628.1, bt628.2))) = some (r1, r2) := by rw [if_pos rfl] at H; exact H
       clear H
       have H := H1
       clear H1
       replace H := Option.bind_eq_some_iff.mp H
       obtain ⟨⟨t628, t629⟩, A640, H⟩ := H
       replace H : (some (t628, t629)) = some (r1, r2) := H
       have A64 := Aside0.mk A640
       clear A640
       simp only [Option.some.injEq, Prod.mk.injEq] at H
       obtain ⟨rfl, rfl⟩ := H
       have hnb65 := NB604_605.out
       have hnc65 := NB605_604.out
       have hnb66 := NB604_612.out
       have hnc66 := NB612_604.out
       have hcz67_0 : wc.cell? ⟨gb604, 0, none⟩ = some (.int .i64 a0_0) := (blk_cell BK604.out 0).trans rfl
       have hcz67_1 : wc.cell? ⟨gb604, 1, none⟩ = some (.int .i64 a0_1) := (blk_cell BK604.out 1).trans rfl
       have hfz67_0 := blk_frozen BK604.out 0
       have hfz67_1 := blk_frozen BK604.out 1
       go_wp2_with (first | ((with_reducible refine gate_callee (f := 67) rfl ?_); refine goesL_ (some 58) rfl rfl Tryd.func67 (by kernel_rfl) rfl #[.int .i64 a0_1] rfl agx ?_; (with_reducible refine (money_amount.calls a0_1 t616 t617 _ A50.out).mono ?_); rintro e w' ⟨rfl, ⟨nd, rfl⟩⟩; refine ⟨_, rfl, ?_⟩; (try (rw [drewN_self wc]; generalize hq_ : World.drewN wc _ = wc; have n0_ : Aside0 (wc.heap[gb604]? = some (.cells #[.int .i64 a0_0, .int .i64 a0_1] 23 (0, 0))) := ⟨by rw [← hq_]; exact bkx⟩; have n1_ : Aside0 (wc.heap[gb605]? = some (.cells #[.int .i64 0, .int .i64 0] 23 (0, 0))) := ⟨by rw [← hq_]; exact bkx⟩; have n2_ : Aside0 (wc.heap[gb612]? = some (.cells #[.int .i64 t609, .int .i64 t610] 23 (0, 0))) := ⟨by rw [← hq_]; exact bkx⟩; have n3_ : Aside0 (Below w.heap.size w wc) := ⟨by rw [← hq_]; exact blx⟩; clear BK604 BK605 BK612 HB hq_; have BK604 := n0_; have BK605 := n1_; have BK612 := n2_; have HB := n3_; clear n0_ n1_ n2_ n3_))) | ((with_reducible refine gate_callee (f := 67) rfl ?_); refine goesL_ (some 63) rfl rfl Tryd.func67 (by kernel_rfl) rfl #[.int .i64 a1] rfl agx ?_; (with_reducible refine (money_amount.calls a1 t618 t619 _ A51.out).mono ?_); rintro e w' ⟨rfl, ⟨nd, rfl⟩⟩; refine ⟨_, rfl, ?_⟩; (try (rw [drewN_self wc]; generalize hq_ : World.drewN wc _ = wc; have n0_ : Aside0 (wc.heap[gb604]? = some (.cells #[.int .i64 a0_0, .int .i64 a0_1] 23 (0, 0))) := ⟨by rw [← hq_]; exact bkx⟩; have n1_ : Aside0 (wc.heap[gb605]? = some (.cells #[.int .i64 0, .int .i64 0] 23 (0, 0))) := ⟨by rw [← hq_]; exact bkx⟩; have n2_ : Aside0 (wc.heap[gb612]? = some (.cells #[.int .i64 t609, .int .i64 t610] 23 (0, 0))) := ⟨by rw [← hq_]; exact bkx⟩; have n3_ : Aside0 (Below w.heap.size w wc) := ⟨by rw [← hq_]; exact blx⟩; clear BK604 BK605 BK612 HB hq_; have BK604 := n0_; have BK605 := n1_; have BK612 := n2_; have HB := n3_; clear n0_ n1_ n2_ n3_))) | ((with_reducible refine gate_callee (f := 75) rfl ?_); refine goesL_ (some 69) rfl rfl Tryd.func75 (by kernel_rfl) rfl #[.int .u64 t616, .int .u64 t618] rfl agx ?_; (with_reducible refine (bits_Mul64.calls t616 t618 t620 t621 _ A52.out).mono ?_); rintro e w' ⟨rfl, ⟨nd, rfl⟩⟩; refine ⟨_, rfl, ?_⟩; (try (rw [drewN_self wc]; generalize hq_ : World.drewN wc _ = wc; have n0_ : Aside0 (wc.heap[gb604]? = some (.cells #[.int .i64 a0_0, .int .i64 a0_1] 23 (0, 0))) := ⟨by rw [← hq_]; exact bkx⟩; have n1_ : Aside0 (wc.heap[gb605]? = some (.cells #[.int .i64 0, .int .i64 0] 23 (0, 0))) := ⟨by rw [← hq_]; exact bkx⟩; have n2_ : Aside0 (wc.heap[gb612]? = some (.cells #[.int .i64 t609, .int .i64 t610] 23 (0, 0))) := ⟨by rw [← hq_]; exact bkx⟩; have n3_ : Aside0 (Below w.heap.size w wc) := ⟨by rw [← hq_]; exact blx⟩; clear BK604 BK605 BK612 HB hq_; have BK604 := n0_; have BK605 := n1_; have BK612 := n2_; have HB := n3_; clear n0_ n1_ n2_ n3_))) | ((with_reducible refine gate_callee (f := 100) rfl ?_); refine goesL_ (some 82) rfl rfl Tryd.func100 (by kernel_rfl) rfl #[.int .u64 t620, .int .u64 t621, .int .u64 (IntKind.u64.wrap (a2))] rfl agx ?_; (with_reducible refine (bits_Div64.calls kj6 t620 t621 (IntKind.u64.wrap (a2)) t624 t625 _ A61.out).mono ?_); rintro e w' ⟨rfl, ⟨nd, rfl⟩⟩; refine ⟨_, rfl, ?_⟩; (try (rw [drewN_self wc]; generalize hq_ : World.drewN wc _ = wc; have n0_ : Aside0 (wc.heap[gb604]? = some (.cells #[.int .i64 a0_0, .int .i64 a0_1] 23 (0, 0))) := ⟨by rw [← hq_]; exact bkx⟩; have n1_ : Aside0 (wc.heap[gb605]? = some (.cells #[.int .i64 0, .int .i64 0] 23 (0, 0))) := ⟨by rw [← hq_]; exact bkx⟩; have n2_ : Aside0 (wc.heap[gb612]? = some (.cells #[.int .i64 t609, .int .i64 t610] 23 (0, 0))) := ⟨by rw [← hq_]; exact bkx⟩; have n3_ : Aside0 (Below w.heap.size w wc) := ⟨by rw [← hq_]; exact blx⟩; clear BK604 BK605 BK612 HB hq_; have BK604 := n0_; have BK605 := n1_; have BK612 := n2_; have HB := n3_; clear n0_ n1_ n2_ n3_))) | ((with_reducible refine gate_callee (f := 68) rfl ?_); refine goesL_ (some 94) rfl rfl Tryd.func68 (by kernel_rfl) rfl #[.int .u64 t624, .int .u64 t625, .int .u64 (IntKind.u64.wrap (a2)), .bool (t617 != t619), .int .i64 a3] rfl agx ?_; (try rw [show (!(t617 == t619)) = (t617 != t619) from rfl]); (with_reducible refine (money_rounded.calls kj6 t624 t625 (IntKind.u64.wrap (a2)) (t617 != t619) a3 t626 true _ A62.out).mono ?_); rintro e w' ⟨rfl, ⟨nd, rfl⟩⟩; refine ⟨_, rfl, ?_⟩; (try (rw [drewN_self wc]; generalize hq_ : World.drewN wc _ = wc; have n0_ : Aside0 (wc.heap[gb604]? = some (.cells #[.int .i64 a0_0, .int .i64 a0_1] 23 (0, 0))) := ⟨by rw [← hq_]; exact bkx⟩; have n1_ : Aside0 (wc.heap[gb605]? = some (.cells #[.int .i64 0, .int .i64 0] 23 (0, 0))) := ⟨by rw [← hq_]; exact bkx⟩; have n2_ : Aside0 (wc.heap[gb612]? = some (.cells #[.int .i64 t609, .int .i64 t610] 23 (0, 0))) := ⟨by rw [← hq_]; exact bkx⟩; have n3_ : Aside0 (Below w.heap.size w wc) := ⟨by rw [← hq_]; exact blx⟩; clear BK604 BK605 BK612 HB hq_; have BK604 := n0_; have BK605 := n1_; have BK612 := n2_; have HB := n3_; clear n0_ n1_ n2_ n3_))) | ((with_reducible refine gate_callee (f := 69) rfl ?_); refine goesL_ (some 101) rfl rfl Tryd.func69 (by kernel_rfl) rfl #[.int .i64 t626] rfl agx ?_; (with_reducible refine (money_cents.calls t626 t628 t629 _ A64.out (by first | exact HG0.out | exact Kd.C_below HG0.out blx)).mono ?_); rintro e w68 ⟨rfl, hb⟩; refine ⟨_, rfl, ?_⟩; have n0_ := Aside0.mk (blk_below (g := gb604) (o := .cells #[.int .i64 a0_0, .int .i64 a0_1] 23 (0, 0)) bkx hb); have n1_ := Aside0.mk (blk_below (g := gb605) (o := .cells #[.int .i64 0, .int .i64 0] 23 (0, 0)) bkx hb); have n2_ := Aside0.mk (blk_below (g := gb612) (o := .cells #[.int .i64 t609, .int .i64 t610] 23 (0, 0)) bkx hb); have n3_ := Aside0.mk (below_step blx hb); clear BK604; clear BK605; clear BK612; clear HB; have BK604 := n0_; have BK605 := n1_; have BK612 := n2_; have HB := n3_; clear n0_ n1_ n2_ n3_; (try clear hb); (try clear hb2); (try clear hk); (try clear hi); have hnb69 := NB605_612.out; have hnc69 := NB612_605.out; have hcz70_0 : w68.cell? ⟨gb605, 0, none⟩ = some (.int .i64 0) := (blk_cell BK605.out 0).trans rfl; have hcz70_1 : w68.cell? ⟨gb605, 1, none⟩ = some (.int .i64 0) := (blk_cell BK605.out 1).trans rfl; have hfz70_0 := blk_frozen BK605.out 0; have hfz70_1 := blk_frozen BK605.out 1))
       refine bodyPost_ret (results_cell_row rfl _ _ gb605 23 #[.int .i64 t628, .int .i64 t629] (0, 0) _ rfl (by (with_reducible repeat (first | refine blk_drewN ?_ _ | refine blk_drew ?_ | refine blk_alloc ?_ _)); refine blk_put (cs := #[.int .i64 t628, .int .i64 0]) ?_ 1 _ rfl; (with_reducible repeat (first | refine blk_drewN ?_ _ | refine blk_drew ?_ | refine blk_alloc ?_ _)); refine blk_put (cs := #[.int .i64 0, .int .i64 0]) ?_ 0 _ rfl; (with_reducible repeat (first | refine blk_drewN ?_ _ | refine blk_drew ?_ | refine blk_alloc ?_ _)); exact BK605.out) Tryd.underlying23 rfl (by kernel_rfl)) rfl ?_
       exact ⟨by first | rfl | (simp [errW_none, errW_some] <;> rfl) | (simp [*, errW_none, errW_some] <;> rfl), blx⟩
      ·replace c63 := Bool.eq_false_iff.mpr c63
       subst c63
       have H1 : ((money_fault.f 1).bind fun bt630 => (some (bt630.1, bt630.2))) = some (r1, r2) := by rw [if_neg (show ¬ (false = true) by decide)] at H; exact H
       clear H
       have H := H1
       clear H1
       replace H := Option.bind_eq_some_iff.mp H
       obtain ⟨⟨t630, t631⟩, A710, H⟩ := H
       replace H : (some (t630, t631)) = some (r1, r2) := H
       have A71 := Aside0.mk A710
       clear A710
       simp only [Option.some.injEq, Prod.mk.injEq] at H
       obtain ⟨rfl, rfl⟩ := H
       have hnb72 := NB604_605.out
       have hnc72 := NB605_604.out
       have hnb73 := NB604_612.out
       have hnc73 := NB612_604.out
       have hcz74_0 : wc.cell? ⟨gb604, 0, none⟩ = some (.int .i64 a0_0) := (blk_cell BK604.out 0).trans rfl
       have hcz74_1 : wc.cell? ⟨gb604, 1, none⟩ = some (.int .i64 a0_1) := (blk_cell BK604.out 1).trans rfl
       have hfz74_0 := blk_frozen BK604.out 0
       have hfz74_1 := blk_frozen BK604.out 1
       go_wp2_with (first | ((with_reducible refine gate_callee (f := 67) rfl ?_); refine goesL_ (some 58) rfl rfl Tryd.func67 (by kernel_rfl) rfl #[.int .i64 a0_1] rfl agx ?_; (with_reducible refine (money_amount.calls a0_1 t616 t617 _ A50.out).mono ?_); rintro e w' ⟨rfl, ⟨nd, rfl⟩⟩; refine ⟨_, rfl, ?_⟩; (try (rw [drewN_self wc]; generalize hq_ : World.drewN wc _ = wc; have n0_ : Aside0 (wc.heap[gb604]? = some (.cells #[.int .i64 a0_0, .int .i64 a0_1] 23 (0, 0))) := ⟨by rw [← hq_]; exact bkx⟩; have n1_ : Aside0 (wc.heap[gb605]? = some (.cells #[.int .i64 0, .int .i64 0] 23 (0, 0))) := ⟨by rw [← hq_]; exact bkx⟩; have n2_ : Aside0 (wc.heap[gb612]? = some (.cells #[.int .i64 t609, .int .i64 t610] 23 (0, 0))) := ⟨by rw [← hq_]; exact bkx⟩; have n3_ : Aside0 (Below w.heap.size w wc) := ⟨by rw [← hq_]; exact blx⟩; clear BK604 BK605 BK612 HB hq_; have BK604 := n0_; have BK605 := n1_; have BK612 := n2_; have HB := n3_; clear n0_ n1_ n2_ n3_))) | ((with_reducible refine gate_callee (f := 67) rfl ?_); refine goesL_ (some 63) rfl rfl Tryd.func67 (by kernel_rfl) rfl #[.int .i64 a1] rfl agx ?_; (with_reducible refine (money_amount.calls a1 t618 t619 _ A51.out).mono ?_); rintro e w' ⟨rfl, ⟨nd, rfl⟩⟩; refine ⟨_, rfl, ?_⟩; (try (rw [drewN_self wc]; generalize hq_ : World.drewN wc _ = wc; have n0_ : Aside0 (wc.heap[gb604]? = some (.cells #[.int .i64 a0_0, .int .i64 a0_1] 23 (0, 0))) := ⟨by rw [← hq_]; exact bkx⟩; have n1_ : Aside0 (wc.heap[gb605]? = some (.cells #[.int .i64 0, .int .i64 0] 23 (0, 0))) := ⟨by rw [← hq_]; exact bkx⟩; have n2_ : Aside0 (wc.heap[gb612]? = some (.cells #[.int .i64 t609, .int .i64 t610] 23 (0, 0))) := ⟨by rw [← hq_]; exact bkx⟩; have n3_ : Aside0 (Below w.heap.size w wc) := ⟨by rw [← hq_]; exact blx⟩; clear BK604 BK605 BK612 HB hq_; have BK604 := n0_; have BK605 := n1_; have BK612 := n2_; have HB := n3_; clear n0_ n1_ n2_ n3_))) | ((with_reducible refine gate_callee (f := 75) rfl ?_); refine goesL_ (some 69) rfl rfl Tryd.func75 (by kernel_rfl) rfl #[.int .u64 t616, .int .u64 t618] rfl agx ?_; (with_reducible refine (bits_Mul64.calls t616 t618 t620 t621 _ A52.out).mono ?_); rintro e w' ⟨rfl, ⟨nd, rfl⟩⟩; refine ⟨_, rfl, ?_⟩; (try (rw [drewN_self wc]; generalize hq_ : World.drewN wc _ = wc; have n0_ : Aside0 (wc.heap[gb604]? = some (.cells #[.int .i64 a0_0, .int .i64 a0_1] 23 (0, 0))) := ⟨by rw [← hq_]; exact bkx⟩; have n1_ : Aside0 (wc.heap[gb605]? = some (.cells #[.int .i64 0, .int .i64 0] 23 (0, 0))) := ⟨by rw [← hq_]; exact bkx⟩; have n2_ : Aside0 (wc.heap[gb612]? = some (.cells #[.int .i64 t609, .int .i64 t610] 23 (0, 0))) := ⟨by rw [← hq_]; exact bkx⟩; have n3_ : Aside0 (Below w.heap.size w wc) := ⟨by rw [← hq_]; exact blx⟩; clear BK604 BK605 BK612 HB hq_; have BK604 := n0_; have BK605 := n1_; have BK612 := n2_; have HB := n3_; clear n0_ n1_ n2_ n3_))) | ((with_reducible refine gate_callee (f := 100) rfl ?_); refine goesL_ (some 82) rfl rfl Tryd.func100 (by kernel_rfl) rfl #[.int .u64 t620, .int .u64 t621, .int .u64 (IntKind.u64.wrap (a2))] rfl agx ?_; (with_reducible refine (bits_Div64.calls kj6 t620 t621 (IntKind.u64.wrap (a2)) t624 t625 _ A61.out).mono ?_); rintro e w' ⟨rfl, ⟨nd, rfl⟩⟩; refine ⟨_, rfl, ?_⟩; (try (rw [drewN_self wc]; generalize hq_ : World.drewN wc _ = wc; have n0_ : Aside0 (wc.heap[gb604]? = some (.cells #[.int .i64 a0_0, .int .i64 a0_1] 23 (0, 0))) := ⟨by rw [← hq_]; exact bkx⟩; have n1_ : Aside0 (wc.heap[gb605]? = some (.cells #[.int .i64 0, .int .i64 0] 23 (0, 0))) := ⟨by rw [← hq_]; exact bkx⟩; have n2_ : Aside0 (wc.heap[gb612]? = some (.cells #[.int .i64 t609, .int .i64 t610] 23 (0, 0))) := ⟨by rw [← hq_]; exact bkx⟩; have n3_ : Aside0 (Below w.heap.size w wc) := ⟨by rw [← hq_]; exact blx⟩; clear BK604 BK605 BK612 HB hq_; have BK604 := n0_; have BK605 := n1_; have BK612 := n2_; have HB := n3_; clear n0_ n1_ n2_ n3_))) | ((with_reducible refine gate_callee (f := 68) rfl ?_); refine goesL_ (some 94) rfl rfl Tryd.func68 (by kernel_rfl) rfl #[.int .u64 t624, .int .u64 t625, .int .u64 (IntKind.u64.wrap (a2)), .bool (t617 != t619), .int .i64 a3] rfl agx ?_; (try rw [show (!(t617 == t619)) = (t617 != t619) from rfl]); (with_reducible refine (money_rounded.calls kj6 t624 t625 (IntKind.u64.wrap (a2)) (t617 != t619) a3 t626 false _ A62.out).mono ?_); rintro e w' ⟨rfl, ⟨nd, rfl⟩⟩; refine ⟨_, rfl, ?_⟩; (try (rw [drewN_self wc]; generalize hq_ : World.drewN wc _ = wc; have n0_ : Aside0 (wc.heap[gb604]? = some (.cells #[.int .i64 a0_0, .int .i64 a0_1] 23 (0, 0))) := ⟨by rw [← hq_]; exact bkx⟩; have n1_ : Aside0 (wc.heap[gb605]? = some (.cells #[.int .i64 0, .int .i64 0] 23 (0, 0))) := ⟨by rw [← hq_]; exact bkx⟩; have n2_ : Aside0 (wc.heap[gb612]? = some (.cells #[.int .i64 t609, .int .i64 t610] 23 (0, 0))) := ⟨by rw [← hq_]; exact bkx⟩; have n3_ : Aside0 (Below w.heap.size w wc) := ⟨by rw [← hq_]; exact blx⟩; clear BK604 BK605 BK612 HB hq_; have BK604 := n0_; have BK605 := n1_; have BK612 := n2_; have HB := n3_; clear n0_ n1_ n2_ n3_))) | ((with_reducible refine gate_callee (f := 59) rfl ?_); refine goesL_ (some 99) rfl rfl Tryd.func59 (by kernel_rfl) rfl #[.int .i64 1] rfl agx ?_; (with_reducible refine (money_fault.calls 1 t630 t631 _ A71.out).mono ?_); rintro e w75 ⟨rfl, hb⟩; refine ⟨_, rfl, ?_⟩; have n0_ := Aside0.mk (blk_below (g := gb604) (o := .cells #[.int .i64 a0_0, .int .i64 a0_1] 23 (0, 0)) bkx hb); have n1_ := Aside0.mk (blk_below (g := gb605) (o := .cells #[.int .i64 0, .int .i64 0] 23 (0, 0)) bkx hb); have n2_ := Aside0.mk (blk_below (g := gb612) (o := .cells #[.int .i64 t609, .int .i64 t610] 23 (0, 0)) bkx hb); have n3_ := Aside0.mk (below_step blx hb); clear BK604; clear BK605; clear BK612; clear HB; have BK604 := n0_; have BK605 := n1_; have BK612 := n2_; have HB := n3_; clear n0_ n1_ n2_ n3_; (try clear hb); (try clear hb2); (try clear hk); (try clear hi); have hnb76 := NB605_612.out; have hnc76 := NB612_605.out; have hcz77_0 : w75.cell? ⟨gb605, 0, none⟩ = some (.int .i64 0) := (blk_cell BK605.out 0).trans rfl; have hcz77_1 : w75.cell? ⟨gb605, 1, none⟩ = some (.int .i64 0) := (blk_cell BK605.out 1).trans rfl; have hfz77_0 := blk_frozen BK605.out 0; have hfz77_1 := blk_frozen BK605.out 1))
       refine bodyPost_ret (results_cell_row rfl _ _ gb605 23 #[.int .i64 t630, .int .i64 t631] (0, 0) _ rfl (by (with_reducible repeat (first | refine blk_drewN ?_ _ | refine blk_drew ?_ | refine blk_alloc ?_ _)); refine blk_put (cs := #[.int .i64 t630, .int .i64 0]) ?_ 1 _ rfl; (with_reducible repeat (first | refine blk_drewN ?_ _ | refine blk_drew ?_ | refine blk_alloc ?_ _)); refine blk_put (cs := #[.int .i64 0, .int .i64 0]) ?_ 0 _ rfl; (with_reducible repeat (first | refine blk_drewN ?_ _ | refine blk_drew ?_ | refine blk_alloc ?_ _)); exact BK605.out) Tryd.underlying23 rfl (by kernel_rfl)) rfl ?_
       exact ⟨by first | rfl | (simp [errW_none, errW_some] <;> rfl) | (simp [*, errW_none, errW_some] <;> rfl), blx⟩
 ·replace c6 := Bool.eq_false_iff.mpr c6
  subst c6
  have H1 : (some (t609, t610)) = some (r1, r2) := by rw [if_neg (show ¬ (false = true) by decide)] at H; exact H
  clear H
  have H := H1
  clear H1
  simp only [Option.some.injEq, Prod.mk.injEq] at H
  obtain ⟨rfl, rfl⟩ := H
  go_enter Tryd.func49, Tryd.ntmps49
  go_wp2_with (first | ((with_reducible refine gate_dst (N := 4) rfl ?_); refine box_event ?hg (N := 4) ?hd (cs := #[.int .i64 a0_0, .int .i64 a0_1]) (t := 23) ?hr ?_; (case hd => rfl); (case hg => rfl); (case hr => first | (go_simp; done) | (go_simp; rfl)); intro gb604 hg w78 hbox hb; have n0_ := Aside0.mk (below_step blx hb); have n1_ := Aside0.mk (hbox); have n2_ := Aside0.mk ((by rw [hg]; exact (below_size blx) : w.heap.size ≤ gb604)); have n3_ := Aside0.mk ((by rw [hg]; exact (below_size blx) : w.heap.size ≤ gb604)); clear HB; have HB := n0_; have BK604 := n1_; have GW604 := n2_; have GE604 := n3_; clear n0_ n1_ n2_ n3_; clear hb hbox hg) | ((with_reducible refine gate_dst (N := 8) rfl ?_); refine box_event ?hg (N := 8) ?hd (cs := #[.int .i64 0, .int .i64 0]) (t := 23) ?hr ?_; (case hd => rfl); (case hg => rfl); (case hr => first | (go_simp; done) | (go_simp; rfl)); intro gb605 hg w79 hbox hb; have n0_ := Aside0.mk (blk_below (g := gb604) (o := .cells #[.int .i64 a0_0, .int .i64 a0_1] 23 (0, 0)) bkx hb); have n1_ := Aside0.mk (below_step blx hb); have n2_ := Aside0.mk (hbox); have n3_ := Aside0.mk ((by rw [hg]; exact (below_size blx) : w.heap.size ≤ gb605)); have n4_ := Aside0.mk ((by rw [hg]; exact (below_size blx) : w.heap.size ≤ gb605)); have n5_ := Aside0.mk ((by rw [hg]; exact Nat.ne_of_lt (blk_lt (g := gb604) (o := .cells #[.int .i64 a0_0, .int .i64 a0_1] 23 (0, 0)) bkx) : gb604 ≠ gb605)); have n6_ := Aside0.mk ((by rw [hg]; exact Nat.ne_of_gt (blk_lt (g := gb604) (o := .cells #[.int .i64 a0_0, .int .i64 a0_1] 23 (0, 0)) bkx) : gb605 ≠ gb604)); clear BK604; clear HB; have BK604 := n0_; have HB := n1_; have BK605 := n2_; have GW605 := n3_; have GE605 := n4_; have NB604_605 := n5_; have NB605_604 := n6_; clear n0_ n1_ n2_ n3_ n4_ n5_ n6_; clear hb hbox hg; have hnb80 := NB604_605.out; have hnc80 := NB605_604.out; have hcz81_0 : w79.cell? ⟨gb604, 0, none⟩ = some (.int .i64 a0_0) := (blk_cell BK604.out 0).trans rfl; have hcz81_1 : w79.cell? ⟨gb604, 1, none⟩ = some (.int .i64 a0_1) := (blk_cell BK604.out 1).trans rfl; have hfz81_0 := blk_frozen BK604.out 0; have hfz81_1 := blk_frozen BK604.out 1) | ((with_reducible refine gate_dst (N := 23) rfl ?_); refine Kd.R_lit k23 _ 23 ?hg (N := 23) ?hd (xs := ([(⟨a0_0, a0_1⟩ : S23)] : List (S23))) (inner := [.int .i64 a0_0, .int .i64 a0_1]) (ok := fun _ => True) (okp := fun _ => True) ?hr ?hp (fun _ hk => hk) trivial (Below.refl _ _) (Nat.le_refl _) (by simp) ?_; (case hd => rfl); (case hg => rfl); (case hr => first | (go_simp; done) | (go_simp; rfl)); (case hp => exact (Reps.c2 (show Kd.M k23 _ _ _ (⟨a0_0, a0_1⟩ : S23) [.int .i64 a0_0, .int .i64 a0_1] from (k23_mkM _ _ _ (⟨a0_0, a0_1⟩ : S23) )) (Reps.none _ _))); intro v607 w82 ho83 hb hg_ hnew_; clear hg_ hnew_; (first | rw [← Ny606.out] at ho83 | (simp only [Int.reduceToNat] at ho83; rw [← Ny606.out] at ho83)); have n0_ := Aside0.mk (Kd.R_lower (Kd.R_newB (Kd.R_newB ho83 (g := gb604) (o := .cells #[.int .i64 a0_0, .int .i64 a0_1] 23 (0, 0)) bkx) (g := gb605) (o := .cells #[.int .i64 0, .int .i64 0] 23 (0, 0)) bkx) (below_size blx)); have n1_ := Aside0.mk (blk_below (g := gb604) (o := .cells #[.int .i64 a0_0, .int .i64 a0_1] 23 (0, 0)) bkx hb); have n2_ := Aside0.mk (blk_below (g := gb605) (o := .cells #[.int .i64 0, .int .i64 0] 23 (0, 0)) bkx hb); have n3_ := Aside0.mk (below_step blx hb); clear BK604; clear BK605; clear HB; have HO608 := n0_; have BK604 := n1_; have BK605 := n2_; have HB := n3_; clear n0_ n1_ n2_ n3_; clear hb ho83; obtain ⟨Ao84, co84, eo84⟩ := Kd.R_slice HO608.out; subst eo84) | ((with_reducible refine gate_callee (f := 65) rfl ?_); refine goesL_ (some 24) rfl rfl Tryd.func65 (by kernel_rfl) rfl #[.slice Ao84 y606.length co84] rfl agx ?_; (with_reducible refine (money_seen.calls k _ _ y606 t609 t610 false _ ?side1 ?side2 A5.out (by first | exact HG0.out | exact Kd.C_below HG0.out blx)).mono ?_); (case side1 => repeat (first | exact (Kd.R_reads' HO608.out).2.2 | (with_reducible refine Kd.C_alloc ?_ _) | (with_reducible refine Kd.C_drewN ?_ _) | (with_reducible refine Kd.C_drew ?_))); (case side2 => exact (Kd.R_reads' HO608.out).2.1); rintro e w85 ⟨rfl, hb⟩; refine ⟨_, rfl, ?_⟩; have n0_ := Aside0.mk (Kd.R_below (by (with_reducible repeat (first | apply Kd.R_alloc | apply Kd.R_drewN | apply Kd.R_drew)); exact HO608.out) hb); have n1_ := Aside0.mk (blk_below (g := gb604) (o := .cells #[.int .i64 a0_0, .int .i64 a0_1] 23 (0, 0)) bkx hb); have n2_ := Aside0.mk (blk_below (g := gb605) (o := .cells #[.int .i64 0, .int .i64 0] 23 (0, 0)) bkx hb); have n3_ := Aside0.mk (below_step blx hb); clear HO608; clear BK604; clear BK605; clear HB; have HO608 := n0_; have BK604 := n1_; have BK605 := n2_; have HB := n3_; clear n0_ n1_ n2_ n3_; (try clear hb); (try clear hb2); (try clear hk); (try clear hi)) | ((with_reducible refine gate_dst (N := 9) rfl ?_); refine box_event ?hg (N := 9) ?hd (cs := #[.int .i64 0, .int .i64 0]) (t := 23) ?hr ?_; (case hd => rfl); (case hg => rfl); (case hr => first | (go_simp; done) | (go_simp; rfl)); intro gb612 hg w86 hbox hb; have n0_ := Aside0.mk (Kd.R_below (Kd.R_elderB (by (with_reducible repeat (first | apply Kd.R_alloc | apply Kd.R_drewN | apply Kd.R_drew)); exact HO608.out) gb612 (Nat.le_of_eq hg.symm)) hb); have n1_ := Aside0.mk (blk_below (g := gb604) (o := .cells #[.int .i64 a0_0, .int .i64 a0_1] 23 (0, 0)) bkx hb); have n2_ := Aside0.mk (blk_below (g := gb605) (o := .cells #[.int .i64 0, .int .i64 0] 23 (0, 0)) bkx hb); have n3_ := Aside0.mk (below_step blx hb); have n4_ := Aside0.mk (hbox); have n5_ := Aside0.mk ((by rw [hg]; exact (below_size blx) : w.heap.size ≤ gb612)); have n6_ := Aside0.mk ((by rw [hg]; exact (below_size blx) : w.heap.size ≤ gb612)); have n7_ := Aside0.mk ((by rw [hg]; exact Nat.ne_of_lt (blk_lt (g := gb604) (o := .cells #[.int .i64 a0_0, .int .i64 a0_1] 23 (0, 0)) bkx) : gb604 ≠ gb612)); have n8_ := Aside0.mk ((by rw [hg]; exact Nat.ne_of_gt (blk_lt (g := gb604) (o := .cells #[.int .i64 a0_0, .int .i64 a0_1] 23 (0, 0)) bkx) : gb612 ≠ gb604)); have n9_ := Aside0.mk ((by rw [hg]; exact Nat.ne_of_lt (blk_lt (g := gb605) (o := .cells #[.int .i64 0, .int .i64 0] 23 (0, 0)) bkx) : gb605 ≠ gb612)); have n10_ := Aside0.mk ((by rw [hg]; exact Nat.ne_of_gt (blk_lt (g := gb605) (o := .cells #[.int .i64 0, .int .i64 0] 23 (0, 0)) bkx) : gb612 ≠ gb605)); clear HO608; clear BK604; clear BK605; clear HB; have HO608 := n0_; have BK604 := n1_; have BK605 := n2_; have HB := n3_; have BK612 := n4_; have GW612 := n5_; have GE612 := n6_; have NB604_612 := n7_; have NB612_604 := n8_; have NB605_612 := n9_; have NB612_605 := n10_; clear n0_ n1_ n2_ n3_ n4_ n5_ n6_ n7_ n8_ n9_ n10_; clear hb hbox hg; have hnb87 := NB612_604.out; have hnc87 := NB604_612.out; have hnb88 := NB612_605.out; have hnc88 := NB605_612.out; have hcz89_0 : w86.cell? ⟨gb612, 0, none⟩ = some (.int .i64 0) := (blk_cell BK612.out 0).trans rfl; have hcz89_1 : w86.cell? ⟨gb612, 1, none⟩ = some (.int .i64 0) := (blk_cell BK612.out 1).trans rfl; have hfz89_0 := blk_frozen BK612.out 0; have hfz89_1 := blk_frozen BK612.out 1; have hcz90_0 : w86.cell? ⟨gb605, 0, none⟩ = some (.int .i64 0) := (blk_cell BK605.out 0).trans rfl; have hcz90_1 : w86.cell? ⟨gb605, 1, none⟩ = some (.int .i64 0) := (blk_cell BK605.out 1).trans rfl; have hfz90_0 := blk_frozen BK605.out 0; have hfz90_1 := blk_frozen BK605.out 1))
  refine bodyPost_ret (results_cell_row rfl _ _ gb605 23 #[.int .i64 t609, .int .i64 t610] (0, 0) _ rfl (by (with_reducible repeat (first | refine blk_drewN ?_ _ | refine blk_drew ?_ | refine blk_alloc ?_ _)); refine blk_put (cs := #[.int .i64 t609, .int .i64 0]) ?_ 1 _ rfl; (with_reducible repeat (first | refine blk_drewN ?_ _ | refine blk_drew ?_ | refine blk_alloc ?_ _)); refine blk_put (cs := #[.int .i64 0, .int .i64 0]) ?_ 0 _ rfl; (with_reducible repeat (first | refine blk_drewN ?_ _ | refine blk_drew ?_ | refine blk_alloc ?_ _)); refine blk_far ?_ NB605_612.out _; (with_reducible repeat (first | refine blk_drewN ?_ _ | refine blk_drew ?_ | refine blk_alloc ?_ _)); refine blk_far ?_ NB605_612.out _; (with_reducible repeat (first | refine blk_drewN ?_ _ | refine blk_drew ?_ | refine blk_alloc ?_ _)); exact BK605.out) Tryd.underlying23 rfl (by kernel_rfl)) rfl ?_
  exact ⟨by first | rfl | (simp [errW_none, errW_some] <;> rfl) | (simp [*, errW_none, errW_some] <;> rfl), blx⟩

end Go.Proofs.YtnjhjaifmgjljaaDoor.PM
