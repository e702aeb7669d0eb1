-- Written by a program of this session's (wip/tools/myprint.py): a function's plain form and its contract.
import Derived.Test.YtnjhjaifmgjljaaDoorPMx0
import Derived.Test.YtnjhjaifmgjljaaDoorPMx2
import Derived.Test.YtnjhjaifmgjljaaDoorPMx7
import Derived.Test.YtnjhjaifmgjljaaDoorPMx9
import Derived.Test.YtnjhjaifmgjljaaDoorPMx37
import Derived.Test.YtnjhjaifmgjljaaDoorPMx38
import Derived.Test.YtnjhjaifmgjljaaDoorPMx61
namespace Go.Proofs.YtnjhjaifmgjljaaDoor.PM
open Go.RowKit Go.Proofs.YtnjhjaifmgjljaaDoorW.PrintWords Go.Proofs.YtnjhjaifmgjljaaDoorW.PrintLast Go.Proofs.YtnjhjaifmgjljaaDoorW.PrintMore
attribute [local go_sem] max2_int min2_int max_two min_two max_three min_three max_four min_four   -- for this text's walks alone
set_option linter.unusedVariables false
set_option linter.unusedSimpArgs false

/-! ### money_Bracket: function 45 -/
mutual
def money_Bracket.j0 : Nat → List (S72) → Bool → Int → Int → Option (Int × Int)
 | 0, _, _, _, _ => none
 | k + 1, x0, x29, x670000, x670001 => if x29 = true then ((money_fault.f 5).bind fun bt679 => (some (bt679.1, bt679.2))) else (money_Bracket.l0 k x0 0 x0 (x0.length : Int) 0 x670000 x670001)
def money_Bracket.l0 : Nat → List (S72) → Int → List (S72) → Int → Int → Int → Int → Option (Int × Int)
 | 0, _, _, _, _, _, _, _ => none
 | k + 1, x0, x7, x31, x32, x33, x670000, x670001 => if x33 < x32 then (if 0 ≤ x33 then (if x33 < (x31.length : Int) then (if (wrap64 (x33 + 1)) < (x0.length : Int) then (if 0 ≤ (wrap64 (x33 + 1)) then (if (mn x670001 ((rd_T72 x0 (wrap64 (x33 + 1))).f0)) > ((rd_T72 x31 x33).f0) then (money_Bracket.l0 k x0 (IntKind.u64.wrap (x7 + (IntKind.u64.wrap ((IntKind.u64.wrap (wrap64 ((mn x670001 ((rd_T72 x0 (wrap64 (x33 + 1))).f0)) - ((rd_T72 x31 x33).f0)))) * (IntKind.u64.wrap ((rd_T72 x31 x33).f1)))))) x31 x32 (wrap64 (x33 + 1)) x670000 x670001) else (money_Bracket.l0 k x0 x7 x31 x32 (wrap64 (x33 + 1)) x670000 x670001)) else (none)) else (if x670001 > ((rd_T72 x31 x33).f0) then (money_Bracket.l0 k x0 (IntKind.u64.wrap (x7 + (IntKind.u64.wrap ((IntKind.u64.wrap (wrap64 (x670001 - ((rd_T72 x31 x33).f0)))) * (IntKind.u64.wrap ((rd_T72 x31 x33).f1)))))) x31 x32 (wrap64 (x33 + 1)) x670000 x670001) else (money_Bracket.l0 k x0 x7 x31 x32 (wrap64 (x33 + 1)) x670000 x670001))) else (none)) else (none)) else ((money_rounded.f k (IntKind.u64.wrap (Int.tdiv x7 1000000)) (Int.tmod x7 1000000) 1000000 false 4).bind fun bt681 => ((money_cents.f bt681.1).bind fun bt683 => (some (bt683.1, bt683.2))))
end
def money_Bracket.f (k : Nat) (l0 : List (S72)) (a1_0 : Int) (a1_1 : Int) : Option (Int × Int) := (money_seen.f k (([(⟨a1_0, a1_1⟩ : S23)] : List (S23)))).bind fun bt674 => (if bt674.2.2 = true then (if a1_0 = 1 then ((money_table.f k l0).bind fun t678 => (money_Bracket.j0 k l0 (!t678) a1_0 a1_1)) else (money_Bracket.j0 k l0 true a1_0 a1_1)) else (some (bt674.1, bt674.2.1)))
theorem money_Bracket.mono_l : ∀ k, (∀ y0 y1 y2 y3, LeO (money_Bracket.j0 k y0 y1 y2 y3) (money_Bracket.j0 (k + 1) y0 y1 y2 y3)) ∧ (∀ y0 y1 y2 y3 y4 y5 y6, LeO (money_Bracket.l0 k y0 y1 y2 y3 y4 y5 y6) (money_Bracket.l0 (k + 1) y0 y1 y2 y3 y4 y5 y6))
 | 0 => ⟨fun _ _ _ _ r h => by simp [money_Bracket.j0] at h, fun _ _ _ _ _ _ _ r h => by simp [money_Bracket.l0] at h⟩
 | k + 1 => by
  obtain ⟨ih0, ih1⟩ := money_Bracket.mono_l k
  refine ⟨?_, ?_⟩
  ·intro y0 y1 y2 y3
   unfold money_Bracket.j0
   repeat' first
   | (with_reducible exact ih0 _ _ _ _)
   | (with_reducible exact ih1 _ _ _ _ _ _ _)
   | (with_reducible exact money_rounded.mono _ _ _ _ _ _)
   | (with_reducible exact money_seen.mono _ _)
   | (with_reducible exact money_table.mono _ _)
   | (with_reducible exact LeO.refl _)
   | (with_reducible exact LeO.none _)
   | (with_reducible refine LeO.ite ?_ ?_)
   | (with_reducible refine LeO.bind ?_ (fun _ => ?_))
   | exact ih0 _ _ _ _
   | exact ih1 _ _ _ _ _ _ _
   | exact money_rounded.mono _ _ _ _ _ _
   | exact money_seen.mono _ _
   | exact money_table.mono _ _
   | exact LeO.none _
   | refine LeO.ite ?_ ?_
   | refine LeO.bind ?_ (fun _ => ?_)
  ·intro y0 y1 y2 y3 y4 y5 y6
   unfold money_Bracket.l0
   repeat' first
   | (with_reducible exact ih0 _ _ _ _)
   | (with_reducible exact ih1 _ _ _ _ _ _ _)
   | (with_reducible exact money_rounded.mono _ _ _ _ _ _)
   | (with_reducible exact money_seen.mono _ _)
   | (with_reducible exact money_table.mono _ _)
   | (with_reducible exact LeO.refl _)
   | (with_reducible exact LeO.none _)
   | (with_reducible refine LeO.ite ?_ ?_)
   | (with_reducible refine LeO.bind ?_ (fun _ => ?_))
   | exact ih0 _ _ _ _
   | exact ih1 _ _ _ _ _ _ _
   | exact money_rounded.mono _ _ _ _ _ _
   | exact money_seen.mono _ _
   | exact money_table.mono _ _
   | exact LeO.none _
   | refine LeO.ite ?_ ?_
   | refine LeO.bind ?_ (fun _ => ?_)
theorem money_Bracket.mono : ∀ a0 a1 a2 k, LeO (money_Bracket.f k a0 a1 a2) (money_Bracket.f (k + 1) a0 a1 a2) := by
 intro a0 a1 a2 k
 obtain ⟨ih0, ih1⟩ := money_Bracket.mono_l k
 unfold money_Bracket.f
 repeat' first
   | (with_reducible exact ih0 _ _ _ _)
   | (with_reducible exact ih1 _ _ _ _ _ _ _)
   | (with_reducible exact money_rounded.mono _ _ _ _ _ _)
   | (with_reducible exact money_seen.mono _ _)
   | (with_reducible exact money_table.mono _ _)
   | (with_reducible exact LeO.refl _)
   | (with_reducible exact LeO.none _)
   | (with_reducible refine LeO.ite ?_ ?_)
   | (with_reducible refine LeO.bind ?_ (fun _ => ?_))
   | exact ih0 _ _ _ _
   | exact ih1 _ _ _ _ _ _ _
   | exact money_rounded.mono _ _ _ _ _ _
   | exact money_seen.mono _ _
   | exact money_table.mono _ _
   | exact LeO.none _
   | refine LeO.ite ?_ ?_
   | refine LeO.bind ?_ (fun _ => ?_)
set_option maxHeartbeats 8000000 in
set_option maxRecDepth 100000 in
theorem money_Bracket.calls (k : Nat) (A0 : Option Addr) (c0 : Nat) (l0 : List (S72)) (a1_0 : Int) (a1_1 : Int) (r1 : Int) (r2 : Int) (w : World) (hr0 : Kd.C k72 w A0 l0.length l0) (hc0 : l0.length ≤ c0) (h : money_Bracket.f k l0 a1_0 a1_1 = some (r1, r2)) (hg0 : Kd.C k87 w (some ⟨0, 0, none⟩) gtab0.length gtab0) :
  Calls Tryd.prog 45 #[.slice A0 l0.length c0, .agg #[.int .i64 a1_0, .int .i64 a1_1]] w fun e w' => e = .returned (.agg #[.int .i64 r1, .int .i64 r2]) ∧ Below w.heap.size w w' := by
 have HG0 := Aside0.mk hg0
 clear hg0
 have hu23 := Tryd.underlying23
 have hu72 := Tryd.underlying72
 have HR0 := Aside0.mk hr0
 have HC0 := Aside0.mk hc0
 clear hr0 hc0
 have HB := Aside0.mk (Below.refl w.heap.size w)
 have H : ((money_seen.f k (([(⟨a1_0, a1_1⟩ : S23)] : List (S23)))).bind fun bt674 => (if bt674.2.2 = true then (if a1_0 = 1 then ((money_table.f k l0).bind fun t678 => (money_Bracket.j0 k l0 (!t678) a1_0 a1_1)) else (money_Bracket.j0 k l0 true a1_0 a1_1)) else (some (bt674.1, bt674.2.1)))) = some (r1, r2) := h
 clear h
 obtain ⟨y671, hy671⟩ : ∃ y_ : List (S23), y_ = (([(⟨a1_0, a1_1⟩ : S23)] : List (S23))) := ⟨_, rfl⟩
 replace H : ((money_seen.f k y671).bind fun bt674 => (if bt674.2.2 = true then (if a1_0 = 1 then ((money_table.f k l0).bind fun t678 => (money_Bracket.j0 k l0 (!t678) a1_0 a1_1)) else (money_Bracket.j0 k l0 true a1_0 a1_1)) else (some (bt674.1, bt674.2.1)))) = some (r1, r2) := by first | (rw [hy671]; with_reducible exact H) | (have H2_ := (Option.bind_some _ _).symm.trans H; rw [hy671]; with_reducible exact H2_) | (have H2_ := (Option.bind_some _ _).symm.trans H; with_reducible exact H2_) | with_reducible exact H | (rw [hy671]; exact H) | exact H
 have Ny671 := Aside0.mk hy671
 clear hy671
 replace H := Option.bind_eq_some_iff.mp H
 obtain ⟨⟨t674, t675, t676⟩, A30, H⟩ := H
 replace H : (if t676 = true then (if a1_0 = 1 then ((money_table.f k l0).bind fun t678 => (money_Bracket.j0 k l0 (!t678) a1_0 a1_1)) else (money_Bracket.j0 k l0 true a1_0 a1_1)) else (some (t674, t675))) = some (r1, r2) := H
 have A3 := Aside0.mk A30
 clear A30
 by_cases c4 : t676 = true
 ·subst c4
  have H1 : (if a1_0 = 1 then ((money_table.f k l0).bind fun t678 => (money_Bracket.j0 k l0 (!t678) a1_0 a1_1)) else (money_Bracket.j0 k l0 true a1_0 a1_1)) = some (r1, r2) := by rw [if_pos rfl] at H; exact H
  clear H
  have H := H1
  clear H1
  have HC5 := Aside0.mk H
  clear H
  go_enter Tryd.func45, Tryd.ntmps45
  go_upto_region 4 with (first | ((with_reducible refine gate_dst (N := 3) rfl ?_); refine box_event ?hg (N := 3) ?hd (cs := #[.int .i64 a1_0, .int .i64 a1_1]) (t := 23) ?hr ?_; (case hd => rfl); (case hg => rfl); (case hr => first | (go_simp; done) | (go_simp; rfl)); intro gb669 hg w6 hbox hb; have n0_ := Aside0.mk (below_step blx hb); have n1_ := Aside0.mk (hbox); have n2_ := Aside0.mk ((by rw [hg]; exact (below_size blx) : w.heap.size ≤ gb669)); have n3_ := Aside0.mk ((by rw [hg]; exact (below_size blx) : w.heap.size ≤ gb669)); clear HB; have HB := n0_; have BK669 := n1_; have GW669 := n2_; have GE669 := n3_; clear n0_ n1_ n2_ n3_; clear hb hbox hg) | ((with_reducible refine gate_dst (N := 4) rfl ?_); refine box_event ?hg (N := 4) ?hd (cs := #[.int .i64 0, .int .i64 0]) (t := 23) ?hr ?_; (case hd => rfl); (case hg => rfl); (case hr => first | (go_simp; done) | (go_simp; rfl)); intro gb670 hg w7 hbox hb; have n0_ := Aside0.mk (blk_below (g := gb669) (o := .cells #[.int .i64 a1_0, .int .i64 a1_1] 23 (0, 0)) bkx hb); have n1_ := Aside0.mk (below_step blx hb); have n2_ := Aside0.mk (hbox); have n3_ := Aside0.mk ((by rw [hg]; exact (below_size blx) : w.heap.size ≤ gb670)); have n4_ := Aside0.mk ((by rw [hg]; exact (below_size blx) : w.heap.size ≤ gb670)); have n5_ := Aside0.mk ((by rw [hg]; exact Nat.ne_of_lt (blk_lt (g := gb669) (o := .cells #[.int .i64 a1_0, .int .i64 a1_1] 23 (0, 0)) bkx) : gb669 ≠ gb670)); have n6_ := Aside0.mk ((by rw [hg]; exact Nat.ne_of_gt (blk_lt (g := gb669) (o := .cells #[.int .i64 a1_0, .int .i64 a1_1] 23 (0, 0)) bkx) : gb670 ≠ gb669)); clear BK669; clear HB; have BK669 := n0_; have HB := n1_; have BK670 := n2_; have GW670 := n3_; have GE670 := n4_; have NB669_670 := n5_; have NB670_669 := n6_; clear n0_ n1_ n2_ n3_ n4_ n5_ n6_; clear hb hbox hg; have hnb8 := NB669_670.out; have hnc8 := NB670_669.out; have hcz9_0 : w7.cell? ⟨gb669, 0, none⟩ = some (.int .i64 a1_0) := (blk_cell BK669.out 0).trans rfl; have hcz9_1 : w7.cell? ⟨gb669, 1, none⟩ = some (.int .i64 a1_1) := (blk_cell BK669.out 1).trans rfl; have hfz9_0 := blk_frozen BK669.out 0; have hfz9_1 := blk_frozen BK669.out 1) | ((with_reducible refine gate_dst (N := 15) rfl ?_); refine Kd.R_lit k23 _ 23 ?hg (N := 15) ?hd (xs := ([(⟨a1_0, a1_1⟩ : S23)] : List (S23))) (inner := [.int .i64 a1_0, .int .i64 a1_1]) (ok := fun _ => True) (okp := fun _ => True) ?hr ?hp (fun _ hk => hk) trivial (Below.refl _ _) (Nat.le_refl _) (by simp) ?_; (case hd => rfl); (case hg => rfl); (case hr => first | (go_simp; done) | (go_simp; rfl)); (case hp => exact (Reps.c2 (show Kd.M k23 _ _ _ (⟨a1_0, a1_1⟩ : S23) [.int .i64 a1_0, .int .i64 a1_1] from (k23_mkM _ _ _ (⟨a1_0, a1_1⟩ : S23) )) (Reps.none _ _))); intro v672 w10 ho11 hb hg_ hnew_; clear hg_ hnew_; (first | rw [← Ny671.out] at ho11 | (simp only [Int.reduceToNat] at ho11; rw [← Ny671.out] at ho11)); have n0_ := Aside0.mk (Kd.R_lower (Kd.R_newB (Kd.R_newB ho11 (g := gb669) (o := .cells #[.int .i64 a1_0, .int .i64 a1_1] 23 (0, 0)) bkx) (g := gb670) (o := .cells #[.int .i64 0, .int .i64 0] 23 (0, 0)) bkx) (below_size blx)); have n1_ := Aside0.mk (blk_below (g := gb669) (o := .cells #[.int .i64 a1_0, .int .i64 a1_1] 23 (0, 0)) bkx hb); have n2_ := Aside0.mk (blk_below (g := gb670) (o := .cells #[.int .i64 0, .int .i64 0] 23 (0, 0)) bkx hb); have n3_ := Aside0.mk (below_step blx hb); clear BK669; clear BK670; clear HB; have HO673 := n0_; have BK669 := n1_; have BK670 := n2_; have HB := n3_; clear n0_ n1_ n2_ n3_; clear hb ho11; obtain ⟨Ao12, co12, eo12⟩ := Kd.R_slice HO673.out; subst eo12) | ((with_reducible refine gate_callee (f := 65) rfl ?_); refine goesL_ (some 16) rfl rfl Tryd.func65 (by kernel_rfl) rfl #[.slice Ao12 y671.length co12] rfl agx ?_; (with_reducible refine (money_seen.calls k _ _ y671 t674 t675 true _ ?side1 ?side2 A3.out (by first | exact HG0.out | exact Kd.C_below HG0.out blx)).mono ?_); (case side1 => repeat (first | exact (Kd.R_reads' HO673.out).2.2 | (with_reducible refine Kd.C_alloc ?_ _) | (with_reducible refine Kd.C_drewN ?_ _) | (with_reducible refine Kd.C_drew ?_))); (case side2 => exact (Kd.R_reads' HO673.out).2.1); rintro e w13 ⟨rfl, hb⟩; refine ⟨_, rfl, ?_⟩; have n0_ := Aside0.mk (Kd.R_below (by (with_reducible repeat (first | apply Kd.R_alloc | apply Kd.R_drewN | apply Kd.R_drew)); exact HO673.out) hb); have n1_ := Aside0.mk (blk_below (g := gb669) (o := .cells #[.int .i64 a1_0, .int .i64 a1_1] 23 (0, 0)) bkx hb); have n2_ := Aside0.mk (blk_below (g := gb670) (o := .cells #[.int .i64 0, .int .i64 0] 23 (0, 0)) bkx hb); have n3_ := Aside0.mk (below_step blx hb); clear HO673; clear BK669; clear BK670; clear HB; have HO673 := n0_; have BK669 := n1_; have BK670 := n2_; have HB := n3_; clear n0_ n1_ n2_ n3_; (try clear hb); (try clear hb2); (try clear hk); (try clear hi)) | ((with_reducible refine gate_dst (N := 5) rfl ?_); refine box_event ?hg (N := 5) ?hd (cs := #[.int .i64 0, .int .i64 0]) (t := 23) ?hr ?_; (case hd => rfl); (case hg => rfl); (case hr => first | (go_simp; done) | (go_simp; rfl)); intro gb677 hg w14 hbox hb; have n0_ := Aside0.mk (Kd.R_below (Kd.R_elderB (by (with_reducible repeat (first | apply Kd.R_alloc | apply Kd.R_drewN | apply Kd.R_drew)); exact HO673.out) gb677 (Nat.le_of_eq hg.symm)) hb); have n1_ := Aside0.mk (blk_below (g := gb669) (o := .cells #[.int .i64 a1_0, .int .i64 a1_1] 23 (0, 0)) bkx hb); have n2_ := Aside0.mk (blk_below (g := gb670) (o := .cells #[.int .i64 0, .int .i64 0] 23 (0, 0)) bkx hb); have n3_ := Aside0.mk (below_step blx hb); have n4_ := Aside0.mk (hbox); have n5_ := Aside0.mk ((by rw [hg]; exact (below_size blx) : w.heap.size ≤ gb677)); have n6_ := Aside0.mk ((by rw [hg]; exact (below_size blx) : w.heap.size ≤ gb677)); have n7_ := Aside0.mk ((by rw [hg]; exact Nat.ne_of_lt (blk_lt (g := gb669) (o := .cells #[.int .i64 a1_0, .int .i64 a1_1] 23 (0, 0)) bkx) : gb669 ≠ gb677)); have n8_ := Aside0.mk ((by rw [hg]; exact Nat.ne_of_gt (blk_lt (g := gb669) (o := .cells #[.int .i64 a1_0, .int .i64 a1_1] 23 (0, 0)) bkx) : gb677 ≠ gb669)); have n9_ := Aside0.mk ((by rw [hg]; exact Nat.ne_of_lt (blk_lt (g := gb670) (o := .cells #[.int .i64 0, .int .i64 0] 23 (0, 0)) bkx) : gb670 ≠ gb677)); have n10_ := Aside0.mk ((by rw [hg]; exact Nat.ne_of_gt (blk_lt (g := gb670) (o := .cells #[.int .i64 0, .int .i64 0] 23 (0, 0)) bkx) : gb677 ≠ gb670)); clear HO673; clear BK669; clear BK670; clear HB; have HO673 := n0_; have BK669 := n1_; have BK670 := n2_; have HB := n3_; have BK677 := n4_; have GW677 := n5_; have GE677 := n6_; have NB669_677 := n7_; have NB677_669 := n8_; have NB670_677 := n9_; have NB677_670 := n10_; clear n0_ n1_ n2_ n3_ n4_ n5_ n6_ n7_ n8_ n9_ n10_; clear hb hbox hg; have hnb15 := NB677_669.out; have hnc15 := NB669_677.out; have hnb16 := NB677_670.out; have hnc16 := NB670_677.out; have hcz17_0 : w14.cell? ⟨gb677, 0, none⟩ = some (.int .i64 0) := (blk_cell BK677.out 0).trans rfl; have hcz17_1 : w14.cell? ⟨gb677, 1, none⟩ = some (.int .i64 0) := (blk_cell BK677.out 1).trans rfl; have hfz17_0 := blk_frozen BK677.out 0; have hfz17_1 := blk_frozen BK677.out 1))
  (try simp only [Act.put, List.setIfInBounds_toArray, List.set_cons_zero, List.set_cons_succ])
  go_cut [29] (fun v29 wc => ∃ (kq : Nat) (x29_4 : Bool), v29 = .bool x29_4 ∧ Aside0 (money_Bracket.j0 kq l0 x29_4 a1_0 a1_1 = some (r1, r2)) ∧ Aside0 (kq ≤ k) ∧ Aside0 (wc.heap[gb669]? = some (.cells #[.int .i64 a1_0, .int .i64 a1_1] 23 (0, 0))) ∧ Aside0 (wc.heap[gb670]? = some (.cells #[.int .i64 0, .int .i64 0] 23 (0, 0))) ∧ Aside0 (wc.heap[gb677]? = some (.cells #[.int .i64 t674, .int .i64 t675] 23 (0, 0))) ∧ Aside0 (Below w.heap.size w wc))
  case first =>
   have H := HC5.out
   clear HC5
   by_cases c18 : a1_0 = 1
   ·rw [if_pos c18] at H
    have c18b0 : (a1_0 == 1) = true := beq_iff_eq.mpr c18
    have c18b1 : (a1_0 != 1) = false := bne_eq_false_iff_eq.mpr c18
    clear c18
    (first | rw [c18b0] | (simp only [i64_w, i32_w]; rw [c18b0]) | skip)
    replace H := Option.bind_eq_some_iff.mp H
    obtain ⟨t678, A190, H⟩ := H
    replace H : (money_Bracket.j0 k l0 (!t678) a1_0 a1_1) = some (r1, r2) := H
    have A19 := Aside0.mk A190
    clear A190
    have H' := Aside0.mk H
    clear H
    have hnb20 := NB669_670.out
    have hnc20 := NB670_669.out
    have hnb21 := NB669_677.out
    have hnc21 := NB677_669.out
    have hcz22_0 : w14.cell? ⟨gb669, 0, none⟩ = some (.int .i64 a1_0) := (blk_cell BK669.out 0).trans rfl
    have hcz22_1 : w14.cell? ⟨gb669, 1, none⟩ = some (.int .i64 a1_1) := (blk_cell BK669.out 1).trans rfl
    have hfz22_0 := blk_frozen BK669.out 0
    have hfz22_1 := blk_frozen BK669.out 1
    go_wp2_with (first | (go_at_call 78; (with_reducible refine (money_table.calls k _ _ l0 t678 _ ?side1 ?side2 A19.out).mono ?_); (case side1 => exact Kd.C_below HR0.out blx); (case side2 => exact HC0.out); rintro e w23 ⟨rfl, hb⟩; have n0_ := Aside0.mk (Kd.R_below (by (with_reducible repeat (first | apply Kd.R_alloc | apply Kd.R_drewN | apply Kd.R_drew)); exact (Kd.R_mono (Kd.R_far (p := ⟨gb677, 1, none⟩) (Kd.R_far (p := ⟨gb677, 0, none⟩) (Kd.R_mono HO673.out (fun k_ hk => (⟨hk, hk.2⟩ : _ ∧ k_ ≠ gb677))) (fun _ hk => hk.2) (.int .i64 t674)) (fun _ hk => hk.2) (.int .i64 t675)) (fun _ h_ => h_.1))) hb); have n1_ := Aside0.mk (blk_below (g := gb669) (o := .cells #[.int .i64 a1_0, .int .i64 a1_1] 23 (0, 0)) bkx hb); have n2_ := Aside0.mk (blk_below (g := gb670) (o := .cells #[.int .i64 0, .int .i64 0] 23 (0, 0)) bkx hb); have n3_ := Aside0.mk (blk_below (g := gb677) (o := .cells #[.int .i64 t674, .int .i64 t675] 23 (0, 0)) (by (with_reducible repeat (first | refine blk_drewN ?_ _ | refine blk_drew ?_ | refine blk_alloc ?_ _)); refine blk_put (cs := #[.int .i64 t674, .int .i64 0]) ?_ 1 _ rfl; (with_reducible repeat (first | refine blk_drewN ?_ _ | refine blk_drew ?_ | refine blk_alloc ?_ _)); refine blk_put (cs := #[.int .i64 0, .int .i64 0]) ?_ 0 _ rfl; (with_reducible repeat (first | refine blk_drewN ?_ _ | refine blk_drew ?_ | refine blk_alloc ?_ _)); exact BK677.out) hb); have n4_ := Aside0.mk (below_step blx hb); clear HO673; clear BK669; clear BK670; clear BK677; clear HB; have HO673 := n0_; have BK669 := n1_; have BK670 := n2_; have BK677 := n3_; have HB := n4_; clear n0_ n1_ n2_ n3_ n4_; (try clear hb); (try clear hb2); (try clear hk); (try clear hi)))
    go_meet
    case rel => exact ⟨_, (!t678), (by first | rfl | (simp; done) | (simp [*]; done)), H', ⟨by first | omega | exact Nat.le_refl _⟩, ⟨bkx⟩, ⟨bkx⟩, ⟨bkx⟩, ⟨blx⟩⟩
   ·rw [if_neg c18] at H
    have c18b0 : (a1_0 == 1) = false := beq_eq_false_iff_ne.mpr c18
    have c18b1 : (a1_0 != 1) = true := bne_iff_ne.mpr c18
    (first | rw [c18b0] | (simp only [i64_w, i32_w]; rw [c18b0]) | skip)
    have H' := Aside0.mk H
    clear H
    have hnb24 := NB669_670.out
    have hnc24 := NB670_669.out
    have hnb25 := NB669_677.out
    have hnc25 := NB677_669.out
    have hcz26_0 : w14.cell? ⟨gb669, 0, none⟩ = some (.int .i64 a1_0) := (blk_cell BK669.out 0).trans rfl
    have hcz26_1 : w14.cell? ⟨gb669, 1, none⟩ = some (.int .i64 a1_1) := (blk_cell BK669.out 1).trans rfl
    have hfz26_0 := blk_frozen BK669.out 0
    have hfz26_1 := blk_frozen BK669.out 1
    go_wp2
    go_meet
    case rel => exact ⟨_, (true), (by first | rfl | (simp; done) | (simp [*]; done)), H', ⟨by first | omega | exact Nat.le_refl _⟩, ⟨bkx⟩, ⟨bkx⟩, ⟨by (with_reducible repeat (first | refine blk_drewN ?_ _ | refine blk_drew ?_ | refine blk_alloc ?_ _)); refine blk_put (cs := #[.int .i64 t674, .int .i64 0]) ?_ 1 _ rfl; (with_reducible repeat (first | refine blk_drewN ?_ _ | refine blk_drew ?_ | refine blk_alloc ?_ _)); refine blk_put (cs := #[.int .i64 0, .int .i64 0]) ?_ 0 _ rfl; (with_reducible repeat (first | refine blk_drewN ?_ _ | refine blk_drew ?_ | refine blk_alloc ?_ _)); exact BK677.out⟩, ⟨blx⟩⟩
  case rest =>
   clear HC5
   try clear c1
   try clear c2
   try clear p2
   try clear c4
   try clear c6
   try clear c8
   try clear c15
   try clear c16
   try clear c18
   try clear c18b0
   try clear c18b1
   try clear c20
   try clear c21
   try clear c24
   try clear c25
   try clear hcz17_0
   try clear hcz17_1
   try clear hcz22_0
   try clear hcz22_1
   try clear hcz26_0
   try clear hcz26_1
   try clear hcz9_0
   try clear hcz9_1
   try clear hfz17_0
   try clear hfz17_1
   try clear hfz22_0
   try clear hfz22_1
   try clear hfz26_0
   try clear hfz26_1
   try clear hfz9_0
   try clear hfz9_1
   obtain ⟨kq, x29_4, rfl, HA, HJ4, BK669, BK670, BK677, HB⟩ := hcut
   cases kq with
   | zero => exact absurd HA.out (by simp [money_Bracket.j0])
   | succ kj4 =>
    have H := HA.out
    clear HA
    simp only [money_Bracket.j0] at H
    by_cases c27 : x29_4 = true
    ·subst c27
     have H1 : ((money_fault.f 5).bind fun bt679 => (some (bt679.1, bt679.2))) = some (r1, r2) := by rw [if_pos rfl] at H; exact H
     clear H
     have H := H1
     clear H1
     replace H := Option.bind_eq_some_iff.mp H
     obtain ⟨⟨t679, t680⟩, A280, H⟩ := H
     replace H : (some (t679, t680)) = some (r1, r2) := H
     have A28 := Aside0.mk A280
     clear A280
     simp only [Option.some.injEq, Prod.mk.injEq] at H
     obtain ⟨rfl, rfl⟩ := H
     go_wp2_with (first | ((with_reducible refine gate_callee (f := 59) rfl ?_); refine goesL_ (some 30) rfl rfl Tryd.func59 (by kernel_rfl) rfl #[.int .i64 5] rfl agx ?_; (with_reducible refine (money_fault.calls 5 t679 t680 _ A28.out).mono ?_); rintro e w29 ⟨rfl, hb⟩; refine ⟨_, rfl, ?_⟩; have n0_ := Aside0.mk (blk_below (g := gb669) (o := .cells #[.int .i64 a1_0, .int .i64 a1_1] 23 (0, 0)) bkx hb); have n1_ := Aside0.mk (blk_below (g := gb670) (o := .cells #[.int .i64 0, .int .i64 0] 23 (0, 0)) bkx hb); have n2_ := Aside0.mk (blk_below (g := gb677) (o := .cells #[.int .i64 t674, .int .i64 t675] 23 (0, 0)) bkx hb); have n3_ := Aside0.mk (below_step blx hb); clear BK669; clear BK670; clear BK677; clear HB; have BK669 := n0_; have BK670 := n1_; have BK677 := n2_; have HB := n3_; clear n0_ n1_ n2_ n3_; (try clear hb); (try clear hb2); (try clear hk); (try clear hi); have hnb30 := NB670_669.out; have hnc30 := NB669_670.out; have hnb31 := NB670_677.out; have hnc31 := NB677_670.out; have hcz32_0 : w29.cell? ⟨gb670, 0, none⟩ = some (.int .i64 0) := (blk_cell BK670.out 0).trans rfl; have hcz32_1 : w29.cell? ⟨gb670, 1, none⟩ = some (.int .i64 0) := (blk_cell BK670.out 1).trans rfl; have hfz32_0 := blk_frozen BK670.out 0; have hfz32_1 := blk_frozen BK670.out 1))
     refine bodyPost_ret (results_cell_row rfl _ _ gb670 23 #[.int .i64 t679, .int .i64 t680] (0, 0) _ rfl (by (with_reducible repeat (first | refine blk_drewN ?_ _ | refine blk_drew ?_ | refine blk_alloc ?_ _)); refine blk_put (cs := #[.int .i64 t679, .int .i64 0]) ?_ 1 _ rfl; (with_reducible repeat (first | refine blk_drewN ?_ _ | refine blk_drew ?_ | refine blk_alloc ?_ _)); refine blk_put (cs := #[.int .i64 0, .int .i64 0]) ?_ 0 _ rfl; (with_reducible repeat (first | refine blk_drewN ?_ _ | refine blk_drew ?_ | refine blk_alloc ?_ _)); exact BK670.out) Tryd.underlying23 rfl (by kernel_rfl)) rfl ?_
     exact ⟨by first | rfl | (simp [errW_none, errW_some] <;> rfl) | (simp [*, errW_none, errW_some] <;> rfl), blx⟩
    ·replace c27 := Bool.eq_false_iff.mpr c27
     subst c27
     have H1 : (money_Bracket.l0 kj4 l0 0 l0 (l0.length : Int) 0 a1_0 a1_1) = some (r1, r2) := by rw [if_neg (show ¬ (false = true) by decide)] at H; exact H
     clear H
     have H := H1
     clear H1
     have H' := Aside0.mk H
     clear H
     go_wp2
     go_loopg [7, 33] kj4 (fun kq v7 v33 w' => ∃ (x7_2 : Int) (x33_2 : Int), v7 = .int .u64 x7_2 ∧ v33 = .int .i64 x33_2 ∧ Aside0 (money_Bracket.l0 kq l0 x7_2 l0 (l0.length : Int) x33_2 a1_0 a1_1 = some (r1, r2)) ∧ Aside0 (kq ≤ kj4) ∧ Aside0 (w'.heap[gb669]? = some (.cells #[.int .i64 a1_0, .int .i64 a1_1] 23 (0, 0))) ∧ Aside0 (w'.heap[gb670]? = some (.cells #[.int .i64 0, .int .i64 0] 23 (0, 0))) ∧ Aside0 (w'.heap[gb677]? = some (.cells #[.int .i64 t674, .int .i64 t675] 23 (0, 0))) ∧ Aside0 (Below w.heap.size w w'))
     case atStart => exact ⟨(0), (0), (by first | rfl | (simp; done) | (simp [*]; done)), (by first | rfl | (simp; done) | (simp [*]; done)), H', ⟨Nat.le_refl _⟩, ⟨bkx⟩, ⟨bkx⟩, ⟨bkx⟩, ⟨blx⟩⟩
     case round =>
      clear H'
      try clear c1
      try clear c2
      try clear p2
      try clear c3
      try clear c4
      try clear c5
      try clear c6
      try clear c8
      try clear c15
      try clear c16
      try clear c18
      try clear c18b0
      try clear c18b1
      try clear c20
      try clear c21
      try clear c24
      try clear c25
      try clear c27
      try clear c30
      try clear c31
      try clear hcz17_0
      try clear hcz17_1
      try clear hcz22_0
      try clear hcz22_1
      try clear hcz26_0
      try clear hcz26_1
      try clear hcz32_0
      try clear hcz32_1
      try clear hcz9_0
      try clear hcz9_1
      try clear hfz17_0
      try clear hfz17_1
      try clear hfz22_0
      try clear hfz22_1
      try clear hfz26_0
      try clear hfz26_1
      try clear hfz32_0
      try clear hfz32_1
      try clear hfz9_0
      try clear hfz9_1
      try clear p2
      obtain ⟨x7_2, x33_2, rfl, rfl, HA, HK2, BK669, BK670, BK677, HB⟩ := hrel
      cases gk with
      | zero => exact absurd HA.out (by simp [money_Bracket.l0])
      | succ k2 =>
       have H := HA.out
       clear HA
       simp only [money_Bracket.l0] at H
       by_cases c33 : x33_2 < (l0.length : Int)
       ·rw [if_pos c33] at H
        have c33b0 : decide (x33_2 < (l0.length : Int)) = true := decide_eq_true c33
        clear c33
        by_cases c34 : 0 ≤ x33_2
        ·rw [if_pos c34] at H
         have c34b0 : decide (0 ≤ x33_2) = true := decide_eq_true c34
         clear c34
         by_cases c35 : x33_2 < (l0.length : Int)
         ·rw [if_pos c35] at H
          have c35b0 : decide (x33_2 < (l0.length : Int)) = true := decide_eq_true c35
          clear c35
          by_cases c36 : (wrap64 (x33_2 + 1)) < (l0.length : Int)
          ·rw [if_pos c36] at H
           have c36b0 : decide ((wrap64 (x33_2 + 1)) < (l0.length : Int)) = true := decide_eq_true c36
           clear c36
           obtain ⟨ji37, hji37⟩ : ∃ j_ : Int, (wrap64 (x33_2 + 1)) = j_ := ⟨_, rfl⟩
           replace H : (if 0 ≤ (ji37) then (if (mn a1_1 ((rd_T72 l0 (ji37)).f0)) > ((rd_T72 l0 x33_2).f0) then (money_Bracket.l0 k2 l0 (IntKind.u64.wrap (x7_2 + (IntKind.u64.wrap ((IntKind.u64.wrap (wrap64 ((mn a1_1 ((rd_T72 l0 (ji37)).f0)) - ((rd_T72 l0 x33_2).f0)))) * (IntKind.u64.wrap ((rd_T72 l0 x33_2).f1)))))) l0 (l0.length : Int) ji37 a1_0 a1_1) else (money_Bracket.l0 k2 l0 x7_2 l0 (l0.length : Int) ji37 a1_0 a1_1)) else (none)) = some (r1, r2) := by first | (rw [hji37] at H; exact H) | (simp only [hji37] at H ⊢; exact H)
           (try rw [hji37] at c36b0)
           have hji37w : (IntKind.i64.wrap (x33_2 + 1)) = ji37 := (i64_w _).trans hji37
           by_cases c38 : 0 ≤ (ji37)
           ·rw [if_pos c38] at H
            have c38b0 : decide (0 ≤ (ji37)) = true := decide_eq_true c38
            clear c38
            obtain ⟨ji39, hji39⟩ : ∃ j_ : Int, (mn a1_1 ((rd_T72 l0 (ji37)).f0)) = j_ := ⟨_, rfl⟩
            replace H : (if (ji39) > ((rd_T72 l0 x33_2).f0) then (money_Bracket.l0 k2 l0 (IntKind.u64.wrap (x7_2 + (IntKind.u64.wrap ((IntKind.u64.wrap (wrap64 ((ji39) - ((rd_T72 l0 x33_2).f0)))) * (IntKind.u64.wrap ((rd_T72 l0 x33_2).f1)))))) l0 (l0.length : Int) ji37 a1_0 a1_1) else (money_Bracket.l0 k2 l0 x7_2 l0 (l0.length : Int) ji37 a1_0 a1_1)) = some (r1, r2) := by first | (rw [hji39] at H; exact H) | (simp only [hji39] at H ⊢; exact H)
            have hji39_ : (if ((rd_T72 l0 (ji37)).f0) < a1_1 then ((rd_T72 l0 (ji37)).f0) else a1_1) = ji39 := hji39
            by_cases c40 : (ji39) > ((rd_T72 l0 x33_2).f0)
            ·rw [if_pos c40] at H
             have c40b0 : decide (((rd_T72 l0 x33_2).f0) < (ji39)) = true := decide_eq_true c40
             clear c40
             have H' := Aside0.mk H
             clear H
             have p685 : 0 ≤ (x33_2 : Int) := odx
             have q685 : x33_2 < (l0.length : Int) := odx
             obtain ⟨ad685, e685, hx685_0, hx685_1⟩ := at_T72 HR0.out x33_2 p685 q685
             cases e685
             replace hx685_0 := (HB.out.cell (World.block_lt_of_cell? w _ hx685_0)).trans hx685_0
             replace hx685_1 := (HB.out.cell (World.block_lt_of_cell? w _ hx685_1)).trans hx685_1
             replace p685 := eq_true p685
             replace q685 := eq_true q685
             go_wp2_with (first | ((with_reducible refine gate_dst (N := 9) rfl ?_); refine box_event ?hg (N := 9) ?hd (cs := #[.int .i64 0, .int .i64 0]) (t := 72) ?hr ?_; (case hd => rfl); (case hg => rfl); (case hr => first | (go_simp; done) | (go_simp; rfl)); intro gb686 hg w41 hbox hb; have n0_ := Aside0.mk (blk_below (g := gb669) (o := .cells #[.int .i64 a1_0, .int .i64 a1_1] 23 (0, 0)) bkx hb); have n1_ := Aside0.mk (blk_below (g := gb670) (o := .cells #[.int .i64 0, .int .i64 0] 23 (0, 0)) bkx hb); have n2_ := Aside0.mk (blk_below (g := gb677) (o := .cells #[.int .i64 t674, .int .i64 t675] 23 (0, 0)) bkx hb); have n3_ := Aside0.mk (below_step blx hb); have n4_ := Aside0.mk (hbox); have n5_ := Aside0.mk ((by rw [hg]; exact (below_size blx) : w.heap.size ≤ gb686)); have n6_ := Aside0.mk ((by rw [hg]; exact (below_size blx) : w.heap.size ≤ gb686)); have n7_ := Aside0.mk ((by rw [hg]; exact Nat.ne_of_lt (blk_lt (g := gb669) (o := .cells #[.int .i64 a1_0, .int .i64 a1_1] 23 (0, 0)) bkx) : gb669 ≠ gb686)); have n8_ := Aside0.mk ((by rw [hg]; exact Nat.ne_of_gt (blk_lt (g := gb669) (o := .cells #[.int .i64 a1_0, .int .i64 a1_1] 23 (0, 0)) bkx) : gb686 ≠ gb669)); have n9_ := Aside0.mk ((by rw [hg]; exact Nat.ne_of_lt (blk_lt (g := gb670) (o := .cells #[.int .i64 0, .int .i64 0] 23 (0, 0)) bkx) : gb670 ≠ gb686)); have n10_ := Aside0.mk ((by rw [hg]; exact Nat.ne_of_gt (blk_lt (g := gb670) (o := .cells #[.int .i64 0, .int .i64 0] 23 (0, 0)) bkx) : gb686 ≠ gb670)); have n11_ := Aside0.mk ((by rw [hg]; exact Nat.ne_of_lt (blk_lt (g := gb677) (o := .cells #[.int .i64 t674, .int .i64 t675] 23 (0, 0)) bkx) : gb677 ≠ gb686)); have n12_ := Aside0.mk ((by rw [hg]; exact Nat.ne_of_gt (blk_lt (g := gb677) (o := .cells #[.int .i64 t674, .int .i64 t675] 23 (0, 0)) bkx) : gb686 ≠ gb677)); clear BK669; clear BK670; clear BK677; clear HB; have BK669 := n0_; have BK670 := n1_; have BK677 := n2_; have HB := n3_; have BK686 := n4_; have GW686 := n5_; have GE686 := n6_; have NB669_686 := n7_; have NB686_669 := n8_; have NB670_686 := n9_; have NB686_670 := n10_; have NB677_686 := n11_; have NB686_677 := n12_; clear n0_ n1_ n2_ n3_ n4_ n5_ n6_ n7_ n8_ n9_ n10_ n11_ n12_; clear hb hbox hg; have hnb42 := NB686_669.out; have hnc42 := NB669_686.out; have hnb43 := NB686_670.out; have hnc43 := NB670_686.out; have hnb44 := NB686_677.out; have hnc44 := NB677_686.out; have hcz45_0 : w41.cell? ⟨gb686, 0, none⟩ = some (.int .i64 0) := (blk_cell BK686.out 0).trans rfl; have hcz45_1 : w41.cell? ⟨gb686, 1, none⟩ = some (.int .i64 0) := (blk_cell BK686.out 1).trans rfl; have hfz45_0 := blk_frozen BK686.out 0; have hfz45_1 := blk_frozen BK686.out 1; have hnb46 := NB669_670.out; have hnc46 := NB670_669.out; have hnb47 := NB669_677.out; have hnc47 := NB677_669.out; have hcz48_0 : w41.cell? ⟨gb669, 0, none⟩ = some (.int .i64 a1_0) := (blk_cell BK669.out 0).trans rfl; have hcz48_1 : w41.cell? ⟨gb669, 1, none⟩ = some (.int .i64 a1_1) := (blk_cell BK669.out 1).trans rfl; have hfz48_0 := blk_frozen BK669.out 0; have hfz48_1 := blk_frozen BK669.out 1; have p687 : 0 ≤ ((ji37) : Int) := odx; have q687 : (ji37) < (l0.length : Int) := odx; obtain ⟨ad687, e687, hx687_0, hx687_1⟩ := at_T72 HR0.out (ji37) p687 q687; obtain rfl : ad685 = ad687 := (by injection e687); have hn687_0 : ad685.block ≠ gb686 := Nat.ne_of_lt (Nat.lt_of_lt_of_le (by have := World.block_lt_of_cell? _ _ hx687_0; first | rwa [add_block] at this | exact this) GW686.out); have hn687_1 : ad685.block ≠ gb686 := Nat.ne_of_lt (Nat.lt_of_lt_of_le (by have := World.block_lt_of_cell? _ _ hx687_0; first | rwa [add_block] at this | exact this) GW686.out); replace hx687_0 := (HB.out.cell (World.block_lt_of_cell? w _ hx687_0)).trans hx687_0; replace hx687_1 := (HB.out.cell (World.block_lt_of_cell? w _ hx687_1)).trans hx687_1; replace hx687_0 := (cell_far (p := ⟨gb686, 0, none⟩) (by first | (rw [add_block]; exact hn687_0) | (show (Addr.add _ _).block ≠ _; rw [add_block]; exact hn687_0) | exact hn687_0) (.int .i64 ((rd_T72 l0 x33_2).f0))).trans hx687_0; replace hx687_1 := (cell_far (p := ⟨gb686, 0, none⟩) (by first | (rw [add_block]; exact hn687_0) | (show (Addr.add _ _).block ≠ _; rw [add_block]; exact hn687_0) | exact hn687_0) (.int .i64 ((rd_T72 l0 x33_2).f0))).trans hx687_1; replace hx687_0 := (cell_far (p := ⟨gb686, 1, none⟩) (by first | (rw [add_block]; exact hn687_1) | (show (Addr.add _ _).block ≠ _; rw [add_block]; exact hn687_1) | exact hn687_1) (.int .i64 ((rd_T72 l0 x33_2).f1))).trans hx687_0; replace hx687_1 := (cell_far (p := ⟨gb686, 1, none⟩) (by first | (rw [add_block]; exact hn687_1) | (show (Addr.add _ _).block ≠ _; rw [add_block]; exact hn687_1) | exact hn687_1) (.int .i64 ((rd_T72 l0 x33_2).f1))).trans hx687_1; clear hn687_0; clear hn687_1; replace p687 := eq_true p687; replace q687 := eq_true q687))
             go_roundg k2
             case measure => have := HJ4.out; have := HK2.out; omega
             case rel => exact ⟨(IntKind.u64.wrap (x7_2 + (IntKind.u64.wrap ((IntKind.u64.wrap (wrap64 ((ji39) - ((rd_T72 l0 x33_2).f0)))) * (IntKind.u64.wrap ((rd_T72 l0 x33_2).f1)))))), (ji37), (by first | rfl | (simp; done) | (simp only [← hji39] <;> (first | rfl | simp)) | (simp [*]; done)), (by first | rfl | (simp; done) | (simp only [← hji37] <;> (first | rfl | simp)) | (simp [*]; done)), H', ⟨by have := HJ4.out; have := HK2.out; omega⟩, ⟨bkx⟩, ⟨bkx⟩, ⟨bkx⟩, ⟨blx⟩⟩
            ·rw [if_neg c40] at H
             have c40b0 : decide (((rd_T72 l0 x33_2).f0) < (ji39)) = false := decide_eq_false c40
             clear c40
             have H' := Aside0.mk H
             clear H
             have p685 : 0 ≤ (x33_2 : Int) := odx
             have q685 : x33_2 < (l0.length : Int) := odx
             obtain ⟨ad685, e685, hx685_0, hx685_1⟩ := at_T72 HR0.out x33_2 p685 q685
             cases e685
             replace hx685_0 := (HB.out.cell (World.block_lt_of_cell? w _ hx685_0)).trans hx685_0
             replace hx685_1 := (HB.out.cell (World.block_lt_of_cell? w _ hx685_1)).trans hx685_1
             replace p685 := eq_true p685
             replace q685 := eq_true q685
             go_wp2_with (first | ((with_reducible refine gate_dst (N := 9) rfl ?_); refine box_event ?hg (N := 9) ?hd (cs := #[.int .i64 0, .int .i64 0]) (t := 72) ?hr ?_; (case hd => rfl); (case hg => rfl); (case hr => first | (go_simp; done) | (go_simp; rfl)); intro gb686 hg w49 hbox hb; have n0_ := Aside0.mk (blk_below (g := gb669) (o := .cells #[.int .i64 a1_0, .int .i64 a1_1] 23 (0, 0)) bkx hb); have n1_ := Aside0.mk (blk_below (g := gb670) (o := .cells #[.int .i64 0, .int .i64 0] 23 (0, 0)) bkx hb); have n2_ := Aside0.mk (blk_below (g := gb677) (o := .cells #[.int .i64 t674, .int .i64 t675] 23 (0, 0)) bkx hb); have n3_ := Aside0.mk (below_step blx hb); have n4_ := Aside0.mk (hbox); have n5_ := Aside0.mk ((by rw [hg]; exact (below_size blx) : w.heap.size ≤ gb686)); have n6_ := Aside0.mk ((by rw [hg]; exact (below_size blx) : w.heap.size ≤ gb686)); have n7_ := Aside0.mk ((by rw [hg]; exact Nat.ne_of_lt (blk_lt (g := gb669) (o := .cells #[.int .i64 a1_0, .int .i64 a1_1] 23 (0, 0)) bkx) : gb669 ≠ gb686)); have n8_ := Aside0.mk ((by rw [hg]; exact Nat.ne_of_gt (blk_lt (g := gb669) (o := .cells #[.int .i64 a1_0, .int .i64 a1_1] 23 (0, 0)) bkx) : gb686 ≠ gb669)); have n9_ := Aside0.mk ((by rw [hg]; exact Nat.ne_of_lt (blk_lt (g := gb670) (o := .cells #[.int .i64 0, .int .i64 0] 23 (0, 0)) bkx) : gb670 ≠ gb686)); have n10_ := Aside0.mk ((by rw [hg]; exact Nat.ne_of_gt (blk_lt (g := gb670) (o := .cells #[.int .i64 0, .int .i64 0] 23 (0, 0)) bkx) : gb686 ≠ gb670)); have n11_ := Aside0.mk ((by rw [hg]; exact Nat.ne_of_lt (blk_lt (g := gb677) (o := .cells #[.int .i64 t674, .int .i64 t675] 23 (0, 0)) bkx) : gb677 ≠ gb686)); have n12_ := Aside0.mk ((by rw [hg]; exact Nat.ne_of_gt (blk_lt (g := gb677) (o := .cells #[.int .i64 t674, .int .i64 t675] 23 (0, 0)) bkx) : gb686 ≠ gb677)); clear BK669; clear BK670; clear BK677; clear HB; have BK669 := n0_; have BK670 := n1_; have BK677 := n2_; have HB := n3_; have BK686 := n4_; have GW686 := n5_; have GE686 := n6_; have NB669_686 := n7_; have NB686_669 := n8_; have NB670_686 := n9_; have NB686_670 := n10_; have NB677_686 := n11_; have NB686_677 := n12_; clear n0_ n1_ n2_ n3_ n4_ n5_ n6_ n7_ n8_ n9_ n10_ n11_ n12_; clear hb hbox hg; have hnb50 := NB686_669.out; have hnc50 := NB669_686.out; have hnb51 := NB686_670.out; have hnc51 := NB670_686.out; have hnb52 := NB686_677.out; have hnc52 := NB677_686.out; have hcz53_0 : w49.cell? ⟨gb686, 0, none⟩ = some (.int .i64 0) := (blk_cell BK686.out 0).trans rfl; have hcz53_1 : w49.cell? ⟨gb686, 1, none⟩ = some (.int .i64 0) := (blk_cell BK686.out 1).trans rfl; have hfz53_0 := blk_frozen BK686.out 0; have hfz53_1 := blk_frozen BK686.out 1; have hnb54 := NB669_670.out; have hnc54 := NB670_669.out; have hnb55 := NB669_677.out; have hnc55 := NB677_669.out; have hcz56_0 : w49.cell? ⟨gb669, 0, none⟩ = some (.int .i64 a1_0) := (blk_cell BK669.out 0).trans rfl; have hcz56_1 : w49.cell? ⟨gb669, 1, none⟩ = some (.int .i64 a1_1) := (blk_cell BK669.out 1).trans rfl; have hfz56_0 := blk_frozen BK669.out 0; have hfz56_1 := blk_frozen BK669.out 1; have p687 : 0 ≤ ((ji37) : Int) := odx; have q687 : (ji37) < (l0.length : Int) := odx; obtain ⟨ad687, e687, hx687_0, hx687_1⟩ := at_T72 HR0.out (ji37) p687 q687; obtain rfl : ad685 = ad687 := (by injection e687); have hn687_0 : ad685.block ≠ gb686 := Nat.ne_of_lt (Nat.lt_of_lt_of_le (by have := World.block_lt_of_cell? _ _ hx687_0; first | rwa [add_block] at this | exact this) GW686.out); have hn687_1 : ad685.block ≠ gb686 := Nat.ne_of_lt (Nat.lt_of_lt_of_le (by have := World.block_lt_of_cell? _ _ hx687_0; first | rwa [add_block] at this | exact this) GW686.out); replace hx687_0 := (HB.out.cell (World.block_lt_of_cell? w _ hx687_0)).trans hx687_0; replace hx687_1 := (HB.out.cell (World.block_lt_of_cell? w _ hx687_1)).trans hx687_1; replace hx687_0 := (cell_far (p := ⟨gb686, 0, none⟩) (by first | (rw [add_block]; exact hn687_0) | (show (Addr.add _ _).block ≠ _; rw [add_block]; exact hn687_0) | exact hn687_0) (.int .i64 ((rd_T72 l0 x33_2).f0))).trans hx687_0; replace hx687_1 := (cell_far (p := ⟨gb686, 0, none⟩) (by first | (rw [add_block]; exact hn687_0) | (show (Addr.add _ _).block ≠ _; rw [add_block]; exact hn687_0) | exact hn687_0) (.int .i64 ((rd_T72 l0 x33_2).f0))).trans hx687_1; replace hx687_0 := (cell_far (p := ⟨gb686, 1, none⟩) (by first | (rw [add_block]; exact hn687_1) | (show (Addr.add _ _).block ≠ _; rw [add_block]; exact hn687_1) | exact hn687_1) (.int .i64 ((rd_T72 l0 x33_2).f1))).trans hx687_0; replace hx687_1 := (cell_far (p := ⟨gb686, 1, none⟩) (by first | (rw [add_block]; exact hn687_1) | (show (Addr.add _ _).block ≠ _; rw [add_block]; exact hn687_1) | exact hn687_1) (.int .i64 ((rd_T72 l0 x33_2).f1))).trans hx687_1; clear hn687_0; clear hn687_1; replace p687 := eq_true p687; replace q687 := eq_true q687))
             go_roundg k2
             case measure => have := HJ4.out; have := HK2.out; omega
             case rel => exact ⟨(x7_2), (ji37), (by first | rfl | (simp; done) | (simp [*]; done)), (by first | rfl | (simp; done) | (simp only [← hji37] <;> (first | rfl | simp)) | (simp [*]; done)), H', ⟨by have := HJ4.out; have := HK2.out; omega⟩, ⟨bkx⟩, ⟨bkx⟩, ⟨bkx⟩, ⟨blx⟩⟩
           ·rw [if_neg c38] at H
            exact absurd H (by simp)
          ·rw [if_neg c36] at H
           have c36b0 : decide ((wrap64 (x33_2 + 1)) < (l0.length : Int)) = false := decide_eq_false c36
           clear c36
           by_cases c57 : a1_1 > ((rd_T72 l0 x33_2).f0)
           ·rw [if_pos c57] at H
            have c57b0 : decide (((rd_T72 l0 x33_2).f0) < a1_1) = true := decide_eq_true c57
            clear c57
            have H' := Aside0.mk H
            clear H
            have p685 : 0 ≤ (x33_2 : Int) := odx
            have q685 : x33_2 < (l0.length : Int) := odx
            obtain ⟨ad685, e685, hx685_0, hx685_1⟩ := at_T72 HR0.out x33_2 p685 q685
            cases e685
            replace hx685_0 := (HB.out.cell (World.block_lt_of_cell? w _ hx685_0)).trans hx685_0
            replace hx685_1 := (HB.out.cell (World.block_lt_of_cell? w _ hx685_1)).trans hx685_1
            replace p685 := eq_true p685
            replace q685 := eq_true q685
            go_wp2_with (first | ((with_reducible refine gate_dst (N := 9) rfl ?_); refine box_event ?hg (N := 9) ?hd (cs := #[.int .i64 0, .int .i64 0]) (t := 72) ?hr ?_; (case hd => rfl); (case hg => rfl); (case hr => first | (go_simp; done) | (go_simp; rfl)); intro gb686 hg w58 hbox hb; have n0_ := Aside0.mk (blk_below (g := gb669) (o := .cells #[.int .i64 a1_0, .int .i64 a1_1] 23 (0, 0)) bkx hb); have n1_ := Aside0.mk (blk_below (g := gb670) (o := .cells #[.int .i64 0, .int .i64 0] 23 (0, 0)) bkx hb); have n2_ := Aside0.mk (blk_below (g := gb677) (o := .cells #[.int .i64 t674, .int .i64 t675] 23 (0, 0)) bkx hb); have n3_ := Aside0.mk (below_step blx hb); have n4_ := Aside0.mk (hbox); have n5_ := Aside0.mk ((by rw [hg]; exact (below_size blx) : w.heap.size ≤ gb686)); have n6_ := Aside0.mk ((by rw [hg]; exact (below_size blx) : w.heap.size ≤ gb686)); have n7_ := Aside0.mk ((by rw [hg]; exact Nat.ne_of_lt (blk_lt (g := gb669) (o := .cells #[.int .i64 a1_0, .int .i64 a1_1] 23 (0, 0)) bkx) : gb669 ≠ gb686)); have n8_ := Aside0.mk ((by rw [hg]; exact Nat.ne_of_gt (blk_lt (g := gb669) (o := .cells #[.int .i64 a1_0, .int .i64 a1_1] 23 (0, 0)) bkx) : gb686 ≠ gb669)); have n9_ := Aside0.mk ((by rw [hg]; exact Nat.ne_of_lt (blk_lt (g := gb670) (o := .cells #[.int .i64 0, .int .i64 0] 23 (0, 0)) bkx) : gb670 ≠ gb686)); have n10_ := Aside0.mk ((by rw [hg]; exact Nat.ne_of_gt (blk_lt (g := gb670) (o := .cells #[.int .i64 0, .int .i64 0] 23 (0, 0)) bkx) : gb686 ≠ gb670)); have n11_ := Aside0.mk ((by rw [hg]; exact Nat.ne_of_lt (blk_lt (g := gb677) (o := .cells #[.int .i64 t674, .int .i64 t675] 23 (0, 0)) bkx) : gb677 ≠ gb686)); have n12_ := Aside0.mk ((by rw [hg]; exact Nat.ne_of_gt (blk_lt (g := gb677) (o := .cells #[.int .i64 t674, .int .i64 t675] 23 (0, 0)) bkx) : gb686 ≠ gb677)); clear BK669; clear BK670; clear BK677; clear HB; have BK669 := n0_; have BK670 := n1_; have BK677 := n2_; have HB := n3_; have BK686 := n4_; have GW686 := n5_; have GE686 := n6_; have NB669_686 := n7_; have NB686_669 := n8_; have NB670_686 := n9_; have NB686_670 := n10_; have NB677_686 := n11_; have NB686_677 := n12_; clear n0_ n1_ n2_ n3_ n4_ n5_ n6_ n7_ n8_ n9_ n10_ n11_ n12_; clear hb hbox hg; have hnb59 := NB686_669.out; have hnc59 := NB669_686.out; have hnb60 := NB686_670.out; have hnc60 := NB670_686.out; have hnb61 := NB686_677.out; have hnc61 := NB677_686.out; have hcz62_0 : w58.cell? ⟨gb686, 0, none⟩ = some (.int .i64 0) := (blk_cell BK686.out 0).trans rfl; have hcz62_1 : w58.cell? ⟨gb686, 1, none⟩ = some (.int .i64 0) := (blk_cell BK686.out 1).trans rfl; have hfz62_0 := blk_frozen BK686.out 0; have hfz62_1 := blk_frozen BK686.out 1; have hnb63 := NB669_670.out; have hnc63 := NB670_669.out; have hnb64 := NB669_677.out; have hnc64 := NB677_669.out; have hcz65_0 : w58.cell? ⟨gb669, 0, none⟩ = some (.int .i64 a1_0) := (blk_cell BK669.out 0).trans rfl; have hcz65_1 : w58.cell? ⟨gb669, 1, none⟩ = some (.int .i64 a1_1) := (blk_cell BK669.out 1).trans rfl; have hfz65_0 := blk_frozen BK669.out 0; have hfz65_1 := blk_frozen BK669.out 1))
            go_roundg k2
            case measure => have := HJ4.out; have := HK2.out; omega
            case rel => exact ⟨(IntKind.u64.wrap (x7_2 + (IntKind.u64.wrap ((IntKind.u64.wrap (wrap64 (a1_1 - ((rd_T72 l0 x33_2).f0)))) * (IntKind.u64.wrap ((rd_T72 l0 x33_2).f1)))))), (wrap64 (x33_2 + 1)), (by first | rfl | (simp; done) | (simp [*]; done)), (by first | rfl | (simp; done) | (simp [*]; done)), H', ⟨by have := HJ4.out; have := HK2.out; omega⟩, ⟨bkx⟩, ⟨bkx⟩, ⟨bkx⟩, ⟨blx⟩⟩
           ·rw [if_neg c57] at H
            have c57b0 : decide (((rd_T72 l0 x33_2).f0) < a1_1) = false := decide_eq_false c57
            clear c57
            have H' := Aside0.mk H
            clear H
            have p685 : 0 ≤ (x33_2 : Int) := odx
            have q685 : x33_2 < (l0.length : Int) := odx
            obtain ⟨ad685, e685, hx685_0, hx685_1⟩ := at_T72 HR0.out x33_2 p685 q685
            cases e685
            replace hx685_0 := (HB.out.cell (World.block_lt_of_cell? w _ hx685_0)).trans hx685_0
            replace hx685_1 := (HB.out.cell (World.block_lt_of_cell? w _ hx685_1)).trans hx685_1
            replace p685 := eq_true p685
            replace q685 := eq_true q685
            go_wp2_with (first | ((with_reducible refine gate_dst (N := 9) rfl ?_); refine box_event ?hg (N := 9) ?hd (cs := #[.int .i64 0, .int .i64 0]) (t := 72) ?hr ?_; (case hd => rfl); (case hg => rfl); (case hr => first | (go_simp; done) | (go_simp; rfl)); intro gb686 hg w66 hbox hb; have n0_ := Aside0.mk (blk_below (g := gb669) (o := .cells #[.int .i64 a1_0, .int .i64 a1_1] 23 (0, 0)) bkx hb); have n1_ := Aside0.mk (blk_below (g := gb670) (o := .cells #[.int .i64 0, .int .i64 0] 23 (0, 0)) bkx hb); have n2_ := Aside0.mk (blk_below (g := gb677) (o := .cells #[.int .i64 t674, .int .i64 t675] 23 (0, 0)) bkx hb); have n3_ := Aside0.mk (below_step blx hb); have n4_ := Aside0.mk (hbox); have n5_ := Aside0.mk ((by rw [hg]; exact (below_size blx) : w.heap.size ≤ gb686)); have n6_ := Aside0.mk ((by rw [hg]; exact (below_size blx) : w.heap.size ≤ gb686)); have n7_ := Aside0.mk ((by rw [hg]; exact Nat.ne_of_lt (blk_lt (g := gb669) (o := .cells #[.int .i64 a1_0, .int .i64 a1_1] 23 (0, 0)) bkx) : gb669 ≠ gb686)); have n8_ := Aside0.mk ((by rw [hg]; exact Nat.ne_of_gt (blk_lt (g := gb669) (o := .cells #[.int .i64 a1_0, .int .i64 a1_1] 23 (0, 0)) bkx) : gb686 ≠ gb669)); have n9_ := Aside0.mk ((by rw [hg]; exact Nat.ne_of_lt (blk_lt (g := gb670) (o := .cells #[.int .i64 0, .int .i64 0] 23 (0, 0)) bkx) : gb670 ≠ gb686)); have n10_ := Aside0.mk ((by rw [hg]; exact Nat.ne_of_gt (blk_lt (g := gb670) (o := .cells #[.int .i64 0, .int .i64 0] 23 (0, 0)) bkx) : gb686 ≠ gb670)); have n11_ := Aside0.mk ((by rw [hg]; exact Nat.ne_of_lt (blk_lt (g := gb677) (o := .cells #[.int .i64 t674, .int .i64 t675] 23 (0, 0)) bkx) : gb677 ≠ gb686)); have n12_ := Aside0.mk ((by rw [hg]; exact Nat.ne_of_gt (blk_lt (g := gb677) (o := .cells #[.int .i64 t674, .int .i64 t675] 23 (0, 0)) bkx) : gb686 ≠ gb677)); clear BK669; clear BK670; clear BK677; clear HB; have BK669 := n0_; have BK670 := n1_; have BK677 := n2_; have HB := n3_; have BK686 := n4_; have GW686 := n5_; have GE686 := n6_; have NB669_686 := n7_; have NB686_669 := n8_; have NB670_686 := n9_; have NB686_670 := n10_; have NB677_686 := n11_; have NB686_677 := n12_; clear n0_ n1_ n2_ n3_ n4_ n5_ n6_ n7_ n8_ n9_ n10_ n11_ n12_; clear hb hbox hg; have hnb67 := NB686_669.out; have hnc67 := NB669_686.out; have hnb68 := NB686_670.out; have hnc68 := NB670_686.out; have hnb69 := NB686_677.out; have hnc69 := NB677_686.out; have hcz70_0 : w66.cell? ⟨gb686, 0, none⟩ = some (.int .i64 0) := (blk_cell BK686.out 0).trans rfl; have hcz70_1 : w66.cell? ⟨gb686, 1, none⟩ = some (.int .i64 0) := (blk_cell BK686.out 1).trans rfl; have hfz70_0 := blk_frozen BK686.out 0; have hfz70_1 := blk_frozen BK686.out 1; have hnb71 := NB669_670.out; have hnc71 := NB670_669.out; have hnb72 := NB669_677.out; have hnc72 := NB677_669.out; have hcz73_0 : w66.cell? ⟨gb669, 0, none⟩ = some (.int .i64 a1_0) := (blk_cell BK669.out 0).trans rfl; have hcz73_1 : w66.cell? ⟨gb669, 1, none⟩ = some (.int .i64 a1_1) := (blk_cell BK669.out 1).trans rfl; have hfz73_0 := blk_frozen BK669.out 0; have hfz73_1 := blk_frozen BK669.out 1))
            go_roundg k2
            case measure => have := HJ4.out; have := HK2.out; omega
            case rel => exact ⟨(x7_2), (wrap64 (x33_2 + 1)), (by first | rfl | (simp; done) | (simp [*]; done)), (by first | rfl | (simp; done) | (simp [*]; done)), H', ⟨by have := HJ4.out; have := HK2.out; omega⟩, ⟨bkx⟩, ⟨bkx⟩, ⟨bkx⟩, ⟨blx⟩⟩
         ·rw [if_neg c35] at H
          exact absurd H (by simp)
        ·rw [if_neg c34] at H
         exact absurd H (by simp)
       ·rw [if_neg c33] at H
        have c33b0 : decide (x33_2 < (l0.length : Int)) = false := decide_eq_false c33
        clear c33
        replace H := Option.bind_eq_some_iff.mp H
        obtain ⟨⟨t681, t682⟩, A740, H⟩ := H
        replace H : ((money_cents.f t681).bind fun bt683 => (some (bt683.1, bt683.2))) = some (r1, r2) := H
        have A74 := Aside0.mk A740
        clear A740
        replace H := Option.bind_eq_some_iff.mp H
        obtain ⟨⟨t683, t684⟩, A750, H⟩ := H
        replace H : (some (t683, t684)) = some (r1, r2) := H
        have A75 := Aside0.mk A750
        clear A750
        simp only [Option.some.injEq, Prod.mk.injEq] at H
        obtain ⟨rfl, rfl⟩ := H
        go_wp2_with (first | ((with_reducible refine gate_callee (f := 68) rfl ?_); refine goesL_ (some 74) rfl rfl Tryd.func68 (by kernel_rfl) rfl #[.int .u64 (IntKind.u64.wrap (Int.tdiv x7_2 1000000)), .int .u64 (Int.tmod x7_2 1000000), .int .u64 1000000, .bool false, .int .i64 4] rfl agx ?_; (with_reducible refine (money_rounded.calls k2 (IntKind.u64.wrap (Int.tdiv x7_2 1000000)) (Int.tmod x7_2 1000000) 1000000 false 4 t681 t682 _ A74.out).mono ?_); rintro e w' ⟨rfl, ⟨nd, rfl⟩⟩; refine ⟨_, rfl, ?_⟩; (try (rw [drewN_self wr]; generalize hq_ : World.drewN wr _ = wr; have n0_ : Aside0 (wr.heap[gb669]? = some (.cells #[.int .i64 a1_0, .int .i64 a1_1] 23 (0, 0))) := ⟨by rw [← hq_]; exact bkx⟩; have n1_ : Aside0 (wr.heap[gb670]? = some (.cells #[.int .i64 0, .int .i64 0] 23 (0, 0))) := ⟨by rw [← hq_]; exact bkx⟩; have n2_ : Aside0 (wr.heap[gb677]? = some (.cells #[.int .i64 t674, .int .i64 t675] 23 (0, 0))) := ⟨by rw [← hq_]; exact bkx⟩; have n3_ : Aside0 (Below w.heap.size w wr) := ⟨by rw [← hq_]; exact blx⟩; clear BK669 BK670 BK677 HB hq_; have BK669 := n0_; have BK670 := n1_; have BK677 := n2_; have HB := n3_; clear n0_ n1_ n2_ n3_))) | ((with_reducible refine gate_callee (f := 69) rfl ?_); refine goesL_ (some 78) rfl rfl Tryd.func69 (by kernel_rfl) rfl #[.int .i64 t681] rfl agx ?_; (with_reducible refine (money_cents.calls t681 t683 t684 _ A75.out (by first | exact HG0.out | exact Kd.C_below HG0.out blx)).mono ?_); rintro e w76 ⟨rfl, hb⟩; refine ⟨_, rfl, ?_⟩; have n0_ := Aside0.mk (blk_below (g := gb669) (o := .cells #[.int .i64 a1_0, .int .i64 a1_1] 23 (0, 0)) bkx hb); have n1_ := Aside0.mk (blk_below (g := gb670) (o := .cells #[.int .i64 0, .int .i64 0] 23 (0, 0)) bkx hb); have n2_ := Aside0.mk (blk_below (g := gb677) (o := .cells #[.int .i64 t674, .int .i64 t675] 23 (0, 0)) bkx hb); have n3_ := Aside0.mk (below_step blx hb); clear BK669; clear BK670; clear BK677; clear HB; have BK669 := n0_; have BK670 := n1_; have BK677 := n2_; have HB := n3_; clear n0_ n1_ n2_ n3_; (try clear hb); (try clear hb2); (try clear hk); (try clear hi); have hnb77 := NB670_669.out; have hnc77 := NB669_670.out; have hnb78 := NB670_677.out; have hnc78 := NB677_670.out; have hcz79_0 : w76.cell? ⟨gb670, 0, none⟩ = some (.int .i64 0) := (blk_cell BK670.out 0).trans rfl; have hcz79_1 : w76.cell? ⟨gb670, 1, none⟩ = some (.int .i64 0) := (blk_cell BK670.out 1).trans rfl; have hfz79_0 := blk_frozen BK670.out 0; have hfz79_1 := blk_frozen BK670.out 1))
        refine bodyPost_ret (results_cell_row rfl _ _ gb670 23 #[.int .i64 t683, .int .i64 t684] (0, 0) _ rfl (by (with_reducible repeat (first | refine blk_drewN ?_ _ | refine blk_drew ?_ | refine blk_alloc ?_ _)); refine blk_put (cs := #[.int .i64 t683, .int .i64 0]) ?_ 1 _ rfl; (with_reducible repeat (first | refine blk_drewN ?_ _ | refine blk_drew ?_ | refine blk_alloc ?_ _)); refine blk_put (cs := #[.int .i64 0, .int .i64 0]) ?_ 0 _ rfl; (with_reducible repeat (first | refine blk_drewN ?_ _ | refine blk_drew ?_ | refine blk_alloc ?_ _)); exact BK670.out) Tryd.underlying23 rfl (by kernel_rfl)) rfl ?_
        exact ⟨by first | rfl | (simp [errW_none, errW_some] <;> rfl) | (simp [*, errW_none, errW_some] <;> rfl), blx⟩
 ·replace c4 := Bool.eq_false_iff.mpr c4
  subst c4
  have H1 : (some (t674, t675)) = some (r1, r2) := by rw [if_neg (show ¬ (false = true) by decide)] at H; exact H
  clear H
  have H := H1
  clear H1
  simp only [Option.some.injEq, Prod.mk.injEq] at H
  obtain ⟨rfl, rfl⟩ := H
  go_enter Tryd.func45, Tryd.ntmps45
  go_wp2_with (first | ((with_reducible refine gate_dst (N := 3) rfl ?_); refine box_event ?hg (N := 3) ?hd (cs := #[.int .i64 a1_0, .int .i64 a1_1]) (t := 23) ?hr ?_; (case hd => rfl); (case hg => rfl); (case hr => first | (go_simp; done) | (go_simp; rfl)); intro gb669 hg w80 hbox hb; have n0_ := Aside0.mk (below_step blx hb); have n1_ := Aside0.mk (hbox); have n2_ := Aside0.mk ((by rw [hg]; exact (below_size blx) : w.heap.size ≤ gb669)); have n3_ := Aside0.mk ((by rw [hg]; exact (below_size blx) : w.heap.size ≤ gb669)); clear HB; have HB := n0_; have BK669 := n1_; have GW669 := n2_; have GE669 := n3_; clear n0_ n1_ n2_ n3_; clear hb hbox hg) | ((with_reducible refine gate_dst (N := 4) rfl ?_); refine box_event ?hg (N := 4) ?hd (cs := #[.int .i64 0, .int .i64 0]) (t := 23) ?hr ?_; (case hd => rfl); (case hg => rfl); (case hr => first | (go_simp; done) | (go_simp; rfl)); intro gb670 hg w81 hbox hb; have n0_ := Aside0.mk (blk_below (g := gb669) (o := .cells #[.int .i64 a1_0, .int .i64 a1_1] 23 (0, 0)) bkx hb); have n1_ := Aside0.mk (below_step blx hb); have n2_ := Aside0.mk (hbox); have n3_ := Aside0.mk ((by rw [hg]; exact (below_size blx) : w.heap.size ≤ gb670)); have n4_ := Aside0.mk ((by rw [hg]; exact (below_size blx) : w.heap.size ≤ gb670)); have n5_ := Aside0.mk ((by rw [hg]; exact Nat.ne_of_lt (blk_lt (g := gb669) (o := .cells #[.int .i64 a1_0, .int .i64 a1_1] 23 (0, 0)) bkx) : gb669 ≠ gb670)); have n6_ := Aside0.mk ((by rw [hg]; exact Nat.ne_of_gt (blk_lt (g := gb669) (o := .cells #[.int .i64 a1_0, .int .i64 a1_1] 23 (0, 0)) bkx) : gb670 ≠ gb669)); clear BK669; clear HB; have BK669 := n0_; have HB := n1_; have BK670 := n2_; have GW670 := n3_; have GE670 := n4_; have NB669_670 := n5_; have NB670_669 := n6_; clear n0_ n1_ n2_ n3_ n4_ n5_ n6_; clear hb hbox hg; have hnb82 := NB669_670.out; have hnc82 := NB670_669.out; have hcz83_0 : w81.cell? ⟨gb669, 0, none⟩ = some (.int .i64 a1_0) := (blk_cell BK669.out 0).trans rfl; have hcz83_1 : w81.cell? ⟨gb669, 1, none⟩ = some (.int .i64 a1_1) := (blk_cell BK669.out 1).trans rfl; have hfz83_0 := blk_frozen BK669.out 0; have hfz83_1 := blk_frozen BK669.out 1) | ((with_reducible refine gate_dst (N := 15) rfl ?_); refine Kd.R_lit k23 _ 23 ?hg (N := 15) ?hd (xs := ([(⟨a1_0, a1_1⟩ : S23)] : List (S23))) (inner := [.int .i64 a1_0, .int .i64 a1_1]) (ok := fun _ => True) (okp := fun _ => True) ?hr ?hp (fun _ hk => hk) trivial (Below.refl _ _) (Nat.le_refl _) (by simp) ?_; (case hd => rfl); (case hg => rfl); (case hr => first | (go_simp; done) | (go_simp; rfl)); (case hp => exact (Reps.c2 (show Kd.M k23 _ _ _ (⟨a1_0, a1_1⟩ : S23) [.int .i64 a1_0, .int .i64 a1_1] from (k23_mkM _ _ _ (⟨a1_0, a1_1⟩ : S23) )) (Reps.none _ _))); intro v672 w84 ho85 hb hg_ hnew_; clear hg_ hnew_; (first | rw [← Ny671.out] at ho85 | (simp only [Int.reduceToNat] at ho85; rw [← Ny671.out] at ho85)); have n0_ := Aside0.mk (Kd.R_lower (Kd.R_newB (Kd.R_newB ho85 (g := gb669) (o := .cells #[.int .i64 a1_0, .int .i64 a1_1] 23 (0, 0)) bkx) (g := gb670) (o := .cells #[.int .i64 0, .int .i64 0] 23 (0, 0)) bkx) (below_size blx)); have n1_ := Aside0.mk (blk_below (g := gb669) (o := .cells #[.int .i64 a1_0, .int .i64 a1_1] 23 (0, 0)) bkx hb); have n2_ := Aside0.mk (blk_below (g := gb670) (o := .cells #[.int .i64 0, .int .i64 0] 23 (0, 0)) bkx hb); have n3_ := Aside0.mk (below_step blx hb); clear BK669; clear BK670; clear HB; have HO673 := n0_; have BK669 := n1_; have BK670 := n2_; have HB := n3_; clear n0_ n1_ n2_ n3_; clear hb ho85; obtain ⟨Ao86, co86, eo86⟩ := Kd.R_slice HO673.out; subst eo86) | ((with_reducible refine gate_callee (f := 65) rfl ?_); refine goesL_ (some 16) rfl rfl Tryd.func65 (by kernel_rfl) rfl #[.slice Ao86 y671.length co86] rfl agx ?_; (with_reducible refine (money_seen.calls k _ _ y671 t674 t675 false _ ?side1 ?side2 A3.out (by first | exact HG0.out | exact Kd.C_below HG0.out blx)).mono ?_); (case side1 => repeat (first | exact (Kd.R_reads' HO673.out).2.2 | (with_reducible refine Kd.C_alloc ?_ _) | (with_reducible refine Kd.C_drewN ?_ _) | (with_reducible refine Kd.C_drew ?_))); (case side2 => exact (Kd.R_reads' HO673.out).2.1); rintro e w87 ⟨rfl, hb⟩; refine ⟨_, rfl, ?_⟩; have n0_ := Aside0.mk (Kd.R_below (by (with_reducible repeat (first | apply Kd.R_alloc | apply Kd.R_drewN | apply Kd.R_drew)); exact HO673.out) hb); have n1_ := Aside0.mk (blk_below (g := gb669) (o := .cells #[.int .i64 a1_0, .int .i64 a1_1] 23 (0, 0)) bkx hb); have n2_ := Aside0.mk (blk_below (g := gb670) (o := .cells #[.int .i64 0, .int .i64 0] 23 (0, 0)) bkx hb); have n3_ := Aside0.mk (below_step blx hb); clear HO673; clear BK669; clear BK670; clear HB; have HO673 := n0_; have BK669 := n1_; have BK670 := n2_; have HB := n3_; clear n0_ n1_ n2_ n3_; (try clear hb); (try clear hb2); (try clear hk); (try clear hi)) | ((with_reducible refine gate_dst (N := 5) rfl ?_); refine box_event ?hg (N := 5) ?hd (cs := #[.int .i64 0, .int .i64 0]) (t := 23) ?hr ?_; (case hd => rfl); (case hg => rfl); (case hr => first | (go_simp; done) | (go_simp; rfl)); intro gb677 hg w88 hbox hb; have n0_ := Aside0.mk (Kd.R_below (Kd.R_elderB (by (with_reducible repeat (first | apply Kd.R_alloc | apply Kd.R_drewN | apply Kd.R_drew)); exact HO673.out) gb677 (Nat.le_of_eq hg.symm)) hb); have n1_ := Aside0.mk (blk_below (g := gb669) (o := .cells #[.int .i64 a1_0, .int .i64 a1_1] 23 (0, 0)) bkx hb); have n2_ := Aside0.mk (blk_below (g := gb670) (o := .cells #[.int .i64 0, .int .i64 0] 23 (0, 0)) bkx hb); have n3_ := Aside0.mk (below_step blx hb); have n4_ := Aside0.mk (hbox); have n5_ := Aside0.mk ((by rw [hg]; exact (below_size blx) : w.heap.size ≤ gb677)); have n6_ := Aside0.mk ((by rw [hg]; exact (below_size blx) : w.heap.size ≤ gb677)); have n7_ := Aside0.mk ((by rw [hg]; exact Nat.ne_of_lt (blk_lt (g := gb669) (o := .cells #[.int .i64 a1_0, .int .i64 a1_1] 23 (0, 0)) bkx) : gb669 ≠ gb677)); have n8_ := Aside0.mk ((by rw [hg]; exact Nat.ne_of_gt (blk_lt (g := gb669) (o := .cells #[.int .i64 a1_0, .int .i64 a1_1] 23 (0, 0)) bkx) : gb677 ≠ gb669)); have n9_ := Aside0.mk ((by rw [hg]; exact Nat.ne_of_lt (blk_lt (g := gb670) (o := .cells #[.int .i64 0, .int .i64 0] 23 (0, 0)) bkx) : gb670 ≠ gb677)); have n10_ := Aside0.mk ((by rw [hg]; exact Nat.ne_of_gt (blk_lt (g := gb670) (o := .cells #[.int .i64 0, .int .i64 0] 23 (0, 0)) bkx) : gb677 ≠ gb670)); clear HO673; clear BK669; clear BK670; clear HB; have HO673 := n0_; have BK669 := n1_; have BK670 := n2_; have HB := n3_; have BK677 := n4_; have GW677 := n5_; have GE677 := n6_; have NB669_677 := n7_; have NB677_669 := n8_; have NB670_677 := n9_; have NB677_670 := n10_; clear n0_ n1_ n2_ n3_ n4_ n5_ n6_ n7_ n8_ n9_ n10_; clear hb hbox hg; have hnb89 := NB677_669.out; have hnc89 := NB669_677.out; have hnb90 := NB677_670.out; have hnc90 := NB670_677.out; have hcz91_0 : w88.cell? ⟨gb677, 0, none⟩ = some (.int .i64 0) := (blk_cell BK677.out 0).trans rfl; have hcz91_1 : w88.cell? ⟨gb677, 1, none⟩ = some (.int .i64 0) := (blk_cell BK677.out 1).trans rfl; have hfz91_0 := blk_frozen BK677.out 0; have hfz91_1 := blk_frozen BK677.out 1; have hcz92_0 : w88.cell? ⟨gb670, 0, none⟩ = some (.int .i64 0) := (blk_cell BK670.out 0).trans rfl; have hcz92_1 : w88.cell? ⟨gb670, 1, none⟩ = some (.int .i64 0) := (blk_cell BK670.out 1).trans rfl; have hfz92_0 := blk_frozen BK670.out 0; have hfz92_1 := blk_frozen BK670.out 1))
  refine bodyPost_ret (results_cell_row rfl _ _ gb670 23 #[.int .i64 t674, .int .i64 t675] (0, 0) _ rfl (by (with_reducible repeat (first | refine blk_drewN ?_ _ | refine blk_drew ?_ | refine blk_alloc ?_ _)); refine blk_put (cs := #[.int .i64 t674, .int .i64 0]) ?_ 1 _ rfl; (with_reducible repeat (first | refine blk_drewN ?_ _ | refine blk_drew ?_ | refine blk_alloc ?_ _)); refine blk_put (cs := #[.int .i64 0, .int .i64 0]) ?_ 0 _ rfl; (with_reducible repeat (first | refine blk_drewN ?_ _ | refine blk_drew ?_ | refine blk_alloc ?_ _)); refine blk_far ?_ NB670_677.out _; (with_reducible repeat (first | refine blk_drewN ?_ _ | refine blk_drew ?_ | refine blk_alloc ?_ _)); refine blk_far ?_ NB670_677.out _; (with_reducible repeat (first | refine blk_drewN ?_ _ | refine blk_drew ?_ | refine blk_alloc ?_ _)); exact BK670.out) Tryd.underlying23 rfl (by kernel_rfl)) rfl ?_
  exact ⟨by first | rfl | (simp [errW_none, errW_some] <;> rfl) | (simp [*, errW_none, errW_some] <;> rfl), blx⟩

end Go.Proofs.YtnjhjaifmgjljaaDoor.PM
