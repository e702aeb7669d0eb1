-- Written by a program of this session's (wip/tools/myprint.py): a function's plain form and its contract.
import Derived.Test.YtnjhjaifmgjljaaDoorPMx0
import Derived.Test.YtnjhjaifmgjljaaDoorPMx5
import Derived.Test.YtnjhjaifmgjljaaDoorPMx7
import Derived.Test.YtnjhjaifmgjljaaDoorPMx8
namespace Go.Proofs.YtnjhjaifmgjljaaDoor.PM
open Go.RowKit Go.Proofs.YtnjhjaifmgjljaaDoorW.PrintWords Go.Proofs.YtnjhjaifmgjljaaDoorW.PrintLast Go.Proofs.YtnjhjaifmgjljaaDoorW.PrintMore
attribute [local go_sem] max2_int min2_int max_two min_two max_three min_three max_four min_four   -- for this text's walks alone
set_option linter.unusedVariables false
set_option linter.unusedSimpArgs false

/-! ### levyref1_Taken: function 20 -/
mutual
def levyref1_Taken.j0 : Nat → Int → List (S23) → Bool → Option (Int × Int × Int)
 | 0, _, _, _ => none
 | k + 1, x0, x1, x13 => if x13 = true then ((levyref1_bad.f 5).bind fun bt121 => (some (bt121.1, bt121.2, 0))) else (levyref1_Taken.l0 k x0 x1 0 0)
def levyref1_Taken.l0 : Nat → Int → List (S23) → Int → Int → Option (Int × Int × Int)
 | 0, _, _, _, _ => none
 | k + 1, x0, x1, x6, x7 => if x7 < (x1.length : Int) then (if 0 ≤ x7 then (if ((rd_T23 x1 x7).f0) = 0 then (levyref1_Taken.j2 k x0 x1 x6 x7 (((rd_T23 x1 x7).f1) == 0)) else (levyref1_Taken.j2 k x0 x1 x6 x7 false)) else (none)) else ((levyref1_bounded.f x0 x6).bind fun bt123 => (some (bt123.1, bt123.2, (x1.length : Int))))
def levyref1_Taken.j2 : Nat → Int → List (S23) → Int → Int → Bool → Option (Int × Int × Int)
 | 0, _, _, _, _, _ => none
 | k + 1, x0, x1, x6, x7, x34 => if x34 = true then (levyref1_Taken.l0 k x0 x1 x6 (wrap64 (x7 + 1))) else (if 0 ≤ x7 then (if x7 < (x1.length : Int) then ((levyref1_Valid.f ((rd_T23 x1 x7).f0) ((rd_T23 x1 x7).f1)).bind fun t128 => (if t128 = true then (if ((rd_T23 x1 x7).f0) = 6 then (some ((rd_T23 x1 x7).f0, (rd_T23 x1 x7).f1, wrap64 (x7 + 1))) else (if ((rd_T23 x1 x7).f0) = x0 then (levyref1_Taken.l0 k x0 x1 (wrap64 (x6 + ((rd_T23 x1 x7).f1))) (wrap64 (x7 + 1))) else ((levyref1_bad.f 5).bind fun bt135 => (some (bt135.1, bt135.2, wrap64 (x7 + 1)))))) else ((levyref1_bad.f 5).bind fun bt129 => (some (bt129.1, bt129.2, wrap64 (x7 + 1)))))) else (none)) else (none))
end
def levyref1_Taken.f (k : Nat) (a0 : Int) (l1 : List (S23)) : Option (Int × Int × Int) := if a0 = 1 then (levyref1_Taken.j0 k a0 l1 false) else (levyref1_Taken.j0 k a0 l1 (a0 != 2))
theorem levyref1_Taken.mono_l : ∀ k, (∀ y0 y1 y2, LeO (levyref1_Taken.j0 k y0 y1 y2) (levyref1_Taken.j0 (k + 1) y0 y1 y2)) ∧ (∀ y0 y1 y2 y3, LeO (levyref1_Taken.l0 k y0 y1 y2 y3) (levyref1_Taken.l0 (k + 1) y0 y1 y2 y3)) ∧ (∀ y0 y1 y2 y3 y4, LeO (levyref1_Taken.j2 k y0 y1 y2 y3 y4) (levyref1_Taken.j2 (k + 1) y0 y1 y2 y3 y4))
 | 0 => ⟨fun _ _ _ r h => by simp [levyref1_Taken.j0] at h, fun _ _ _ _ r h => by simp [levyref1_Taken.l0] at h, fun _ _ _ _ _ r h => by simp [levyref1_Taken.j2] at h⟩
 | k + 1 => by
  obtain ⟨ih0, ih1, ih2⟩ := levyref1_Taken.mono_l k
  refine ⟨?_, ?_, ?_⟩
  ·intro y0 y1 y2
   unfold levyref1_Taken.j0
   repeat' first
   | (with_reducible exact ih0 _ _ _)
   | (with_reducible exact ih1 _ _ _ _)
   | (with_reducible exact ih2 _ _ _ _ _)
   | (with_reducible exact LeO.refl _)
   | (with_reducible exact LeO.none _)
   | (with_reducible refine LeO.ite ?_ ?_)
   | (with_reducible refine LeO.bind ?_ (fun _ => ?_))
   | exact ih0 _ _ _
   | exact ih1 _ _ _ _
   | exact ih2 _ _ _ _ _
   | exact LeO.none _
   | refine LeO.ite ?_ ?_
   | refine LeO.bind ?_ (fun _ => ?_)
  ·intro y0 y1 y2 y3
   unfold levyref1_Taken.l0
   repeat' first
   | (with_reducible exact ih0 _ _ _)
   | (with_reducible exact ih1 _ _ _ _)
   | (with_reducible exact ih2 _ _ _ _ _)
   | (with_reducible exact LeO.refl _)
   | (with_reducible exact LeO.none _)
   | (with_reducible refine LeO.ite ?_ ?_)
   | (with_reducible refine LeO.bind ?_ (fun _ => ?_))
   | exact ih0 _ _ _
   | exact ih1 _ _ _ _
   | exact ih2 _ _ _ _ _
   | exact LeO.none _
   | refine LeO.ite ?_ ?_
   | refine LeO.bind ?_ (fun _ => ?_)
  ·intro y0 y1 y2 y3 y4
   unfold levyref1_Taken.j2
   repeat' first
   | (with_reducible exact ih0 _ _ _)
   | (with_reducible exact ih1 _ _ _ _)
   | (with_reducible exact ih2 _ _ _ _ _)
   | (with_reducible exact LeO.refl _)
   | (with_reducible exact LeO.none _)
   | (with_reducible refine LeO.ite ?_ ?_)
   | (with_reducible refine LeO.bind ?_ (fun _ => ?_))
   | exact ih0 _ _ _
   | exact ih1 _ _ _ _
   | exact ih2 _ _ _ _ _
   | exact LeO.none _
   | refine LeO.ite ?_ ?_
   | refine LeO.bind ?_ (fun _ => ?_)
theorem levyref1_Taken.mono : ∀ a0 a1 k, LeO (levyref1_Taken.f k a0 a1) (levyref1_Taken.f (k + 1) a0 a1) := by
 intro a0 a1 k
 obtain ⟨ih0, ih1, ih2⟩ := levyref1_Taken.mono_l k
 unfold levyref1_Taken.f
 repeat' first
   | (with_reducible exact ih0 _ _ _)
   | (with_reducible exact ih1 _ _ _ _)
   | (with_reducible exact ih2 _ _ _ _ _)
   | (with_reducible exact LeO.refl _)
   | (with_reducible exact LeO.none _)
   | (with_reducible refine LeO.ite ?_ ?_)
   | (with_reducible refine LeO.bind ?_ (fun _ => ?_))
   | exact ih0 _ _ _
   | exact ih1 _ _ _ _
   | exact ih2 _ _ _ _ _
   | exact LeO.none _
   | refine LeO.ite ?_ ?_
   | refine LeO.bind ?_ (fun _ => ?_)
set_option maxHeartbeats 8000000 in
set_option maxRecDepth 100000 in
theorem levyref1_Taken.calls (k : Nat) (a0 : Int) (A1 : Option Addr) (c1 : Nat) (l1 : List (S23)) (r1 : Int) (r2 : Int) (r3 : Int) (w : World) (hr1 : Kd.C k23 w A1 l1.length l1) (hc1 : l1.length ≤ c1) (h : levyref1_Taken.f k a0 l1 = some (r1, r2, r3)) :
  Calls Tryd.prog 20 #[.int .i64 a0, .slice A1 l1.length c1] w fun e w' => e = .returned (.tuple #[.agg #[.int .i64 r1, .int .i64 r2], .int .i64 r3]) ∧ Below w.heap.size w w' := by
 have hu23 := Tryd.underlying23
 have HR1 := Aside0.mk hr1
 have HC1 := Aside0.mk hc1
 clear hr1 hc1
 have HB := Aside0.mk (Below.refl w.heap.size w)
 have H : (if a0 = 1 then (levyref1_Taken.j0 k a0 l1 false) else (levyref1_Taken.j0 k a0 l1 (a0 != 2))) = some (r1, r2, r3) := h
 clear h
 have HC3 := Aside0.mk H
 clear H
 go_enter Tryd.func20, Tryd.ntmps20
 go_upto_region 1 with (first | ((with_reducible refine gate_dst (N := 4) rfl ?_); refine box_event ?hg (N := 4) ?hd (cs := #[.int .i64 0, .int .i64 0]) (t := 23) ?hr ?_; (case hd => rfl); (case hg => rfl); (case hr => first | (go_simp; done) | (go_simp; rfl)); intro gb120 hg w4 hbox hb; have n0_ := Aside0.mk (below_step blx hb); have n1_ := Aside0.mk (hbox); have n2_ := Aside0.mk ((by rw [hg]; exact (below_size blx) : w.heap.size ≤ gb120)); have n3_ := Aside0.mk ((by rw [hg]; exact (below_size blx) : w.heap.size ≤ gb120)); clear HB; have HB := n0_; have BK120 := n1_; have GW120 := n2_; have GE120 := n3_; clear n0_ n1_ n2_ n3_; clear hb hbox hg))
 (try simp only [Act.put, List.setIfInBounds_toArray, List.set_cons_zero, List.set_cons_succ])
 go_cut [13] (fun v13 wc => ∃ (kq : Nat) (x13_2 : Bool), v13 = .bool x13_2 ∧ Aside0 (levyref1_Taken.j0 kq a0 l1 x13_2 = some (r1, r2, r3)) ∧ Aside0 (kq ≤ k) ∧ Aside0 (wc.heap[gb120]? = some (.cells #[.int .i64 0, .int .i64 0] 23 (0, 0))) ∧ Aside0 (Below w.heap.size w wc))
 case first =>
  have H := HC3.out
  clear HC3
  by_cases c5 : a0 = 1
  ·rw [if_pos c5] at H
   have c5b0 : (a0 == 1) = true := beq_iff_eq.mpr c5
   have c5b1 : (a0 != 1) = false := bne_eq_false_iff_eq.mpr c5
   clear c5
   (first | rw [c5b0] | (simp only [i64_w, i32_w]; rw [c5b0]) | skip)
   have H' := Aside0.mk H
   clear H
   go_wp2
   go_meet
   case rel => exact ⟨_, (false), (by first | rfl | (simp; done) | (simp [*]; done)), H', ⟨by first | omega | exact Nat.le_refl _⟩, ⟨bkx⟩, ⟨blx⟩⟩
  ·rw [if_neg c5] at H
   have c5b0 : (a0 == 1) = false := beq_eq_false_iff_ne.mpr c5
   have c5b1 : (a0 != 1) = true := bne_iff_ne.mpr c5
   (first | rw [c5b0] | (simp only [i64_w, i32_w]; rw [c5b0]) | skip)
   have H' := Aside0.mk H
   clear H
   go_wp2
   go_meet
   case rel => exact ⟨_, ((a0 != 2)), (by first | rfl | (simp; done) | (simp [*]; done)), H', ⟨by first | omega | exact Nat.le_refl _⟩, ⟨bkx⟩, ⟨blx⟩⟩
 case rest =>
  clear HC3
  try clear c1
  try clear c2
  try clear p2
  try clear c5
  try clear c5b0
  try clear c5b1
  obtain ⟨kq, x13_2, rfl, HA, HJ2, BK120, HB⟩ := hcut
  cases kq with
  | zero => exact absurd HA.out (by simp [levyref1_Taken.j0])
  | succ kj2 =>
   have H := HA.out
   clear HA
   simp only [levyref1_Taken.j0] at H
   by_cases c6 : x13_2 = true
   ·subst c6
    have H1 : ((levyref1_bad.f 5).bind fun bt121 => (some (bt121.1, bt121.2, 0))) = some (r1, r2, r3) := by rw [if_pos rfl] at H; exact H
    clear H
    have H := H1
    clear H1
    replace H := Option.bind_eq_some_iff.mp H
    obtain ⟨⟨t121, t122⟩, A70, H⟩ := H
    replace H : (some (t121, t122, 0)) = some (r1, r2, r3) := H
    have A7 := Aside0.mk A70
    clear A70
    simp only [Option.some.injEq, Prod.mk.injEq] at H
    obtain ⟨rfl, rfl, rfl⟩ := H
    go_wp2_with (first | ((with_reducible refine gate_callee (f := 57) rfl ?_); refine goesL_ (some 14) rfl rfl Tryd.func57 (by kernel_rfl) rfl #[.int .i64 5] rfl agx ?_; (with_reducible refine (levyref1_bad.calls 5 t121 t122 _ A7.out).mono ?_); rintro e w8 ⟨rfl, hb⟩; refine ⟨_, rfl, ?_⟩; have n0_ := Aside0.mk (blk_below (g := gb120) (o := .cells #[.int .i64 0, .int .i64 0] 23 (0, 0)) bkx hb); have n1_ := Aside0.mk (below_step blx hb); clear BK120; clear HB; have BK120 := n0_; have HB := n1_; clear n0_ n1_; (try clear hb); (try clear hb2); (try clear hk); (try clear hi); have hcz9_0 : w8.cell? ⟨gb120, 0, none⟩ = some (.int .i64 0) := (blk_cell BK120.out 0).trans rfl; have hcz9_1 : w8.cell? ⟨gb120, 1, none⟩ = some (.int .i64 0) := (blk_cell BK120.out 1).trans rfl; have hfz9_0 := blk_frozen BK120.out 0; have hfz9_1 := blk_frozen BK120.out 1))
    refine bodyPost_ret (results_ct rfl _ _ gb120 23 #[.int .i64 t121, .int .i64 t122] (0, 0) _ rfl (by (with_reducible repeat (first | refine blk_drewN ?_ _ | refine blk_drew ?_ | refine blk_alloc ?_ _)); refine blk_put (cs := #[.int .i64 t121, .int .i64 0]) ?_ 1 _ rfl; (with_reducible repeat (first | refine blk_drewN ?_ _ | refine blk_drew ?_ | refine blk_alloc ?_ _)); refine blk_put (cs := #[.int .i64 0, .int .i64 0]) ?_ 0 _ rfl; (with_reducible repeat (first | refine blk_drewN ?_ _ | refine blk_drew ?_ | refine blk_alloc ?_ _)); exact BK120.out) Tryd.underlying23 rfl (by kernel_rfl)) rfl ?_
    exact ⟨by first | rfl | (simp [errW_none, errW_some] <;> rfl) | (simp [*, errW_none, errW_some] <;> rfl), blx⟩
   ·replace c6 := Bool.eq_false_iff.mpr c6
    subst c6
    have H1 : (levyref1_Taken.l0 kj2 a0 l1 0 0) = some (r1, r2, r3) := by rw [if_neg (show ¬ (false = true) by decide)] at H; exact H
    clear H
    have H := H1
    clear H1
    have H' := Aside0.mk H
    clear H
    go_wp2
    go_loopg [6, 7] kj2 (fun kq v6 v7 w' => ∃ (x6_2 : Int) (x7_2 : Int) (x121000_2 : Int) (x121001_2 : Int), v6 = .int .i64 x6_2 ∧ v7 = .int .i64 x7_2 ∧ Aside0 (levyref1_Taken.l0 kq a0 l1 x6_2 x7_2 = some (r1, r2, r3)) ∧ Aside0 (kq ≤ kj2) ∧ Aside0 (w'.heap[gb120]? = some (.cells #[.int .i64 x121000_2, .int .i64 x121001_2] 23 (0, 0))) ∧ Aside0 (Below w.heap.size w w'))
    case atStart => exact ⟨(0), (0), (0), (0), (by first | rfl | (simp; done) | (simp [*]; done)), (by first | rfl | (simp; done) | (simp [*]; done)), H', ⟨Nat.le_refl _⟩, ⟨bkx⟩, ⟨blx⟩⟩
    case round =>
     clear H'
     try clear c1
     try clear c2
     try clear p2
     try clear c5
     try clear c5b0
     try clear c5b1
     try clear c6
     try clear hcz9_0
     try clear hcz9_1
     try clear hfz9_0
     try clear hfz9_1
     try clear p2
     obtain ⟨x6_2, x7_2, x121000_2, x121001_2, rfl, rfl, HA, HK2, BK120, HB⟩ := hrel
     cases gk with
     | zero => exact absurd HA.out (by simp [levyref1_Taken.l0])
     | succ k2 =>
      have H := HA.out
      clear HA
      simp only [levyref1_Taken.l0] at H
      by_cases c10 : x7_2 < (l1.length : Int)
      ·rw [if_pos c10] at H
       have c10b0 : decide (x7_2 < (l1.length : Int)) = true := decide_eq_true c10
       clear c10
       have HC11 := Aside0.mk H
       clear H
       go_upto_region 7 with (fail)
       go_cut [34] (fun v34 wc => ∃ (kq : Nat) (x34_10 : Bool), v34 = .bool x34_10 ∧ Aside0 (levyref1_Taken.j2 kq a0 l1 x6_2 x7_2 x34_10 = some (r1, r2, r3)) ∧ Aside0 (kq ≤ k2) ∧ Aside0 (wc.heap[gb120]? = some (.cells #[.int .i64 x121000_2, .int .i64 x121001_2] 23 (0, 0))) ∧ Aside0 (Below w.heap.size w wc))
       case first =>
        have H := HC11.out
        clear HC11
        by_cases c12 : 0 ≤ x7_2
        ·rw [if_pos c12] at H
         have c12b0 : decide (0 ≤ x7_2) = true := decide_eq_true c12
         clear c12
         (first | rw [c12b0] | (simp only [i64_w, i32_w]; rw [c12b0]) | skip)
         by_cases c13 : ((rd_T23 l1 x7_2).f0) = 0
         ·rw [if_pos c13] at H
          have c13b0 : (((rd_T23 l1 x7_2).f0) == 0) = true := beq_iff_eq.mpr c13
          have c13b1 : (((rd_T23 l1 x7_2).f0) != 0) = false := bne_eq_false_iff_eq.mpr c13
          clear c13
          have H' := Aside0.mk H
          clear H
          have p125 : 0 ≤ (x7_2 : Int) := odx
          have q125 : x7_2 < (l1.length : Int) := odx
          obtain ⟨ad125, e125, hx125_0, hx125_1⟩ := at_T23 HR1.out x7_2 p125 q125
          cases e125
          replace hx125_0 := (HB.out.cell (World.block_lt_of_cell? w _ hx125_0)).trans hx125_0
          replace hx125_1 := (HB.out.cell (World.block_lt_of_cell? w _ hx125_1)).trans hx125_1
          replace p125 := eq_true p125
          replace q125 := eq_true q125
          have p126 : 0 ≤ (x7_2 : Int) := odx
          have q126 : x7_2 < (l1.length : Int) := odx
          obtain ⟨ad126, e126, hx126_0, hx126_1⟩ := at_T23 HR1.out x7_2 p126 q126
          obtain rfl : ad125 = ad126 := (by injection e126)
          replace hx126_0 := (HB.out.cell (World.block_lt_of_cell? w _ hx126_0)).trans hx126_0
          replace hx126_1 := (HB.out.cell (World.block_lt_of_cell? w _ hx126_1)).trans hx126_1
          replace p126 := eq_true p126
          replace q126 := eq_true q126
          go_wp2
          go_meet
          case rel => exact ⟨_, ((((rd_T23 l1 x7_2).f1) == 0)), (by first | rfl | (simp; done) | (simp [*]; done)), H', ⟨by have := HJ2.out; have := HK2.out; first | omega | exact Nat.le_refl _⟩, ⟨bkx⟩, ⟨blx⟩⟩
         ·rw [if_neg c13] at H
          have c13b0 : (((rd_T23 l1 x7_2).f0) == 0) = false := beq_eq_false_iff_ne.mpr c13
          have c13b1 : (((rd_T23 l1 x7_2).f0) != 0) = true := bne_iff_ne.mpr c13
          have H' := Aside0.mk H
          clear H
          have p125 : 0 ≤ (x7_2 : Int) := odx
          have q125 : x7_2 < (l1.length : Int) := odx
          obtain ⟨ad125, e125, hx125_0, hx125_1⟩ := at_T23 HR1.out x7_2 p125 q125
          cases e125
          replace hx125_0 := (HB.out.cell (World.block_lt_of_cell? w _ hx125_0)).trans hx125_0
          replace hx125_1 := (HB.out.cell (World.block_lt_of_cell? w _ hx125_1)).trans hx125_1
          replace p125 := eq_true p125
          replace q125 := eq_true q125
          go_wp2
          go_meet
          case rel => exact ⟨_, (false), (by first | rfl | (simp; done) | (simp [*]; done)), H', ⟨by have := HJ2.out; have := HK2.out; first | omega | exact Nat.le_refl _⟩, ⟨bkx⟩, ⟨blx⟩⟩
        ·rw [if_neg c12] at H
         exact absurd H (by simp)
       case rest =>
        clear HC11
        try clear c1
        try clear p1
        try clear q1
        try clear hx1
        try clear c2
        try clear p2
        try clear c5
        try clear c5b0
        try clear c5b1
        try clear c6
        try clear c10
        try clear c10b0
        try clear c12
        try clear c12b0
        try clear p12
        try clear q12
        try clear hx12
        try clear c13
        try clear c13b0
        try clear c13b1
        try clear hcz9_0
        try clear hcz9_1
        try clear hfz9_0
        try clear hfz9_1
        try clear hx125_0
        try clear hx125_1
        try clear hx126_0
        try clear hx126_1
        try clear p125
        try clear p126
        try clear p2
        try clear q125
        try clear q126
        obtain ⟨kq, x34_10, rfl, HA, HJ10, BK120, HB⟩ := hcut
        cases kq with
        | zero => exact absurd HA.out (by simp [levyref1_Taken.j2])
        | succ kj10 =>
         have H := HA.out
         clear HA
         simp only [levyref1_Taken.j2] at H
         by_cases c14 : x34_10 = true
         ·subst c14
          have H1 : (levyref1_Taken.l0 kj10 a0 l1 x6_2 (wrap64 (x7_2 + 1))) = some (r1, r2, r3) := by rw [if_pos rfl] at H; exact H
          clear H
          have H := H1
          clear H1
          have H' := Aside0.mk H
          clear H
          go_wp2
          go_roundg kj10
          case measure => have := HJ2.out; have := HK2.out; have := HJ10.out; omega
          case rel => exact ⟨(x6_2), (wrap64 (x7_2 + 1)), (x121000_2), (x121001_2), (by first | rfl | (simp; done) | (simp [*]; done)), (by first | rfl | (simp; done) | (simp [*]; done)), H', ⟨by have := HJ2.out; have := HK2.out; have := HJ10.out; omega⟩, ⟨bkx⟩, ⟨blx⟩⟩
         ·replace c14 := Bool.eq_false_iff.mpr c14
          subst c14
          have H1 : (if 0 ≤ x7_2 then (if x7_2 < (l1.length : Int) then ((levyref1_Valid.f ((rd_T23 l1 x7_2).f0) ((rd_T23 l1 x7_2).f1)).bind fun t128 => (if t128 = true then (if ((rd_T23 l1 x7_2).f0) = 6 then (some ((rd_T23 l1 x7_2).f0, (rd_T23 l1 x7_2).f1, wrap64 (x7_2 + 1))) else (if ((rd_T23 l1 x7_2).f0) = a0 then (levyref1_Taken.l0 kj10 a0 l1 (wrap64 (x6_2 + ((rd_T23 l1 x7_2).f1))) (wrap64 (x7_2 + 1))) else ((levyref1_bad.f 5).bind fun bt135 => (some (bt135.1, bt135.2, wrap64 (x7_2 + 1)))))) else ((levyref1_bad.f 5).bind fun bt129 => (some (bt129.1, bt129.2, wrap64 (x7_2 + 1)))))) else (none)) else (none)) = some (r1, r2, r3) := by rw [if_neg (show ¬ (false = true) by decide)] at H; exact H
          clear H
          have H := H1
          clear H1
          by_cases c15 : 0 ≤ x7_2
          ·rw [if_pos c15] at H
           have c15b0 : decide (0 ≤ x7_2) = true := decide_eq_true c15
           clear c15
           by_cases c16 : x7_2 < (l1.length : Int)
           ·rw [if_pos c16] at H
            have c16b0 : decide (x7_2 < (l1.length : Int)) = true := decide_eq_true c16
            clear c16
            replace H := Option.bind_eq_some_iff.mp H
            obtain ⟨t128, A170, H⟩ := H
            replace H : (if t128 = true then (if ((rd_T23 l1 x7_2).f0) = 6 then (some ((rd_T23 l1 x7_2).f0, (rd_T23 l1 x7_2).f1, wrap64 (x7_2 + 1))) else (if ((rd_T23 l1 x7_2).f0) = a0 then (levyref1_Taken.l0 kj10 a0 l1 (wrap64 (x6_2 + ((rd_T23 l1 x7_2).f1))) (wrap64 (x7_2 + 1))) else ((levyref1_bad.f 5).bind fun bt135 => (some (bt135.1, bt135.2, wrap64 (x7_2 + 1)))))) else ((levyref1_bad.f 5).bind fun bt129 => (some (bt129.1, bt129.2, wrap64 (x7_2 + 1))))) = some (r1, r2, r3) := H
            have A17 := Aside0.mk A170
            clear A170
            by_cases c18 : t128 = true
            ·subst c18
             have H1 : (if ((rd_T23 l1 x7_2).f0) = 6 then (some ((rd_T23 l1 x7_2).f0, (rd_T23 l1 x7_2).f1, wrap64 (x7_2 + 1))) else (if ((rd_T23 l1 x7_2).f0) = a0 then (levyref1_Taken.l0 kj10 a0 l1 (wrap64 (x6_2 + ((rd_T23 l1 x7_2).f1))) (wrap64 (x7_2 + 1))) else ((levyref1_bad.f 5).bind fun bt135 => (some (bt135.1, bt135.2, wrap64 (x7_2 + 1)))))) = some (r1, r2, r3) := by rw [if_pos rfl] at H; exact H
             clear H
             have H := H1
             clear H1
             by_cases c19 : ((rd_T23 l1 x7_2).f0) = 6
             ·rw [if_pos c19] at H
              have c19b0 : (((rd_T23 l1 x7_2).f0) == 6) = true := beq_iff_eq.mpr c19
              have c19b1 : (((rd_T23 l1 x7_2).f0) != 6) = false := bne_eq_false_iff_eq.mpr c19
              clear c19
              simp only [Option.some.injEq, Prod.mk.injEq] at H
              obtain ⟨rfl, rfl, rfl⟩ := H
              have p127 : 0 ≤ (x7_2 : Int) := odx
              have q127 : x7_2 < (l1.length : Int) := odx
              obtain ⟨ad127, e127, hx127_0, hx127_1⟩ := at_T23 HR1.out x7_2 p127 q127
              cases e127
              replace hx127_0 := (HB.out.cell (World.block_lt_of_cell? w _ hx127_0)).trans hx127_0
              replace hx127_1 := (HB.out.cell (World.block_lt_of_cell? w _ hx127_1)).trans hx127_1
              replace p127 := eq_true p127
              replace q127 := eq_true q127
              go_wp2_with (first | ((with_reducible refine gate_callee (f := 19) rfl ?_); refine goesL_ (some 39) rfl rfl Tryd.func19 (by kernel_rfl) rfl #[.agg #[.int .i64 ((rd_T23 l1 x7_2).f0), .int .i64 ((rd_T23 l1 x7_2).f1)]] rfl agx ?_; (with_reducible refine (levyref1_Valid.calls ((rd_T23 l1 x7_2).f0) ((rd_T23 l1 x7_2).f1) true _ A17.out).mono ?_); rintro e w20 ⟨rfl, hb⟩; refine ⟨_, rfl, ?_⟩; have n0_ := Aside0.mk (blk_below (g := gb120) (o := .cells #[.int .i64 x121000_2, .int .i64 x121001_2] 23 (0, 0)) bkx hb); have n1_ := Aside0.mk (below_step blx hb); clear BK120; clear HB; have BK120 := n0_; have HB := n1_; clear n0_ n1_; (try clear hb); (try clear hb2); (try clear hk); (try clear hi); have p131 : 0 ≤ (x7_2 : Int) := odx; have q131 : x7_2 < (l1.length : Int) := odx; obtain ⟨ad131, e131, hx131_0, hx131_1⟩ := at_T23 HR1.out x7_2 p131 q131; obtain rfl : ad127 = ad131 := (by injection e131); replace hx131_0 := (HB.out.cell (World.block_lt_of_cell? w _ hx131_0)).trans hx131_0; replace hx131_1 := (HB.out.cell (World.block_lt_of_cell? w _ hx131_1)).trans hx131_1; replace p131 := eq_true p131; replace q131 := eq_true q131; have p132 : 0 ≤ (x7_2 : Int) := odx; have q132 : x7_2 < (l1.length : Int) := odx; obtain ⟨ad132, e132, hx132_0, hx132_1⟩ := at_T23 HR1.out x7_2 p132 q132; obtain rfl : ad127 = ad132 := (by injection e132); replace hx132_0 := (HB.out.cell (World.block_lt_of_cell? w _ hx132_0)).trans hx132_0; replace hx132_1 := (HB.out.cell (World.block_lt_of_cell? w _ hx132_1)).trans hx132_1; replace p132 := eq_true p132; replace q132 := eq_true q132; have hcz21_0 : w20.cell? ⟨gb120, 0, none⟩ = some (.int .i64 x121000_2) := (blk_cell BK120.out 0).trans rfl; have hcz21_1 : w20.cell? ⟨gb120, 1, none⟩ = some (.int .i64 x121001_2) := (blk_cell BK120.out 1).trans rfl; have hfz21_0 := blk_frozen BK120.out 0; have hfz21_1 := blk_frozen BK120.out 1))
              refine bodyPost_ret (results_ct rfl _ _ gb120 23 #[.int .i64 ((rd_T23 l1 x7_2).f0), .int .i64 ((rd_T23 l1 x7_2).f1)] (0, 0) _ rfl (by (with_reducible repeat (first | refine blk_drewN ?_ _ | refine blk_drew ?_ | refine blk_alloc ?_ _)); refine blk_put (cs := #[.int .i64 ((rd_T23 l1 x7_2).f0), .int .i64 x121001_2]) ?_ 1 _ rfl; (with_reducible repeat (first | refine blk_drewN ?_ _ | refine blk_drew ?_ | refine blk_alloc ?_ _)); refine blk_put (cs := #[.int .i64 x121000_2, .int .i64 x121001_2]) ?_ 0 _ rfl; (with_reducible repeat (first | refine blk_drewN ?_ _ | refine blk_drew ?_ | refine blk_alloc ?_ _)); exact BK120.out) Tryd.underlying23 rfl (by kernel_rfl)) rfl ?_
              exact ⟨by first | rfl | (simp [errW_none, errW_some] <;> rfl) | (simp [*, errW_none, errW_some] <;> rfl), blx⟩
             ·rw [if_neg c19] at H
              have c19b0 : (((rd_T23 l1 x7_2).f0) == 6) = false := beq_eq_false_iff_ne.mpr c19
              have c19b1 : (((rd_T23 l1 x7_2).f0) != 6) = true := bne_iff_ne.mpr c19
              by_cases c22 : ((rd_T23 l1 x7_2).f0) = a0
              ·rw [if_pos c22] at H
               have c22b0 : (((rd_T23 l1 x7_2).f0) == a0) = true := beq_iff_eq.mpr c22
               have c22b1 : (((rd_T23 l1 x7_2).f0) != a0) = false := bne_eq_false_iff_eq.mpr c22
               clear c22
               have H' := Aside0.mk H
               clear H
               have p127 : 0 ≤ (x7_2 : Int) := odx
               have q127 : x7_2 < (l1.length : Int) := odx
               obtain ⟨ad127, e127, hx127_0, hx127_1⟩ := at_T23 HR1.out x7_2 p127 q127
               cases e127
               replace hx127_0 := (HB.out.cell (World.block_lt_of_cell? w _ hx127_0)).trans hx127_0
               replace hx127_1 := (HB.out.cell (World.block_lt_of_cell? w _ hx127_1)).trans hx127_1
               replace p127 := eq_true p127
               replace q127 := eq_true q127
               go_wp2_with (first | ((with_reducible refine gate_callee (f := 19) rfl ?_); refine goesL_ (some 39) rfl rfl Tryd.func19 (by kernel_rfl) rfl #[.agg #[.int .i64 ((rd_T23 l1 x7_2).f0), .int .i64 ((rd_T23 l1 x7_2).f1)]] rfl agx ?_; (with_reducible refine (levyref1_Valid.calls ((rd_T23 l1 x7_2).f0) ((rd_T23 l1 x7_2).f1) true _ A17.out).mono ?_); rintro e w23 ⟨rfl, hb⟩; refine ⟨_, rfl, ?_⟩; have n0_ := Aside0.mk (blk_below (g := gb120) (o := .cells #[.int .i64 x121000_2, .int .i64 x121001_2] 23 (0, 0)) bkx hb); have n1_ := Aside0.mk (below_step blx hb); clear BK120; clear HB; have BK120 := n0_; have HB := n1_; clear n0_ n1_; (try clear hb); (try clear hb2); (try clear hk); (try clear hi); have p131 : 0 ≤ (x7_2 : Int) := odx; have q131 : x7_2 < (l1.length : Int) := odx; obtain ⟨ad131, e131, hx131_0, hx131_1⟩ := at_T23 HR1.out x7_2 p131 q131; obtain rfl : ad127 = ad131 := (by injection e131); replace hx131_0 := (HB.out.cell (World.block_lt_of_cell? w _ hx131_0)).trans hx131_0; replace hx131_1 := (HB.out.cell (World.block_lt_of_cell? w _ hx131_1)).trans hx131_1; replace p131 := eq_true p131; replace q131 := eq_true q131; have p133 : 0 ≤ (x7_2 : Int) := odx; have q133 : x7_2 < (l1.length : Int) := odx; obtain ⟨ad133, e133, hx133_0, hx133_1⟩ := at_T23 HR1.out x7_2 p133 q133; obtain rfl : ad127 = ad133 := (by injection e133); replace hx133_0 := (HB.out.cell (World.block_lt_of_cell? w _ hx133_0)).trans hx133_0; replace hx133_1 := (HB.out.cell (World.block_lt_of_cell? w _ hx133_1)).trans hx133_1; replace p133 := eq_true p133; replace q133 := eq_true q133; have p134 : 0 ≤ (x7_2 : Int) := odx; have q134 : x7_2 < (l1.length : Int) := odx; obtain ⟨ad134, e134, hx134_0, hx134_1⟩ := at_T23 HR1.out x7_2 p134 q134; obtain rfl : ad127 = ad134 := (by injection e134); replace hx134_0 := (HB.out.cell (World.block_lt_of_cell? w _ hx134_0)).trans hx134_0; replace hx134_1 := (HB.out.cell (World.block_lt_of_cell? w _ hx134_1)).trans hx134_1; replace p134 := eq_true p134; replace q134 := eq_true q134))
               go_roundg kj10
               case measure => have := HJ2.out; have := HK2.out; have := HJ10.out; omega
               case rel => exact ⟨(wrap64 (x6_2 + ((rd_T23 l1 x7_2).f1))), (wrap64 (x7_2 + 1)), (x121000_2), (x121001_2), (by first | rfl | (simp; done) | (simp [*]; done)), (by first | rfl | (simp; done) | (simp [*]; done)), H', ⟨by have := HJ2.out; have := HK2.out; have := HJ10.out; omega⟩, ⟨bkx⟩, ⟨blx⟩⟩
              ·rw [if_neg c22] at H
               have c22b0 : (((rd_T23 l1 x7_2).f0) == a0) = false := beq_eq_false_iff_ne.mpr c22
               have c22b1 : (((rd_T23 l1 x7_2).f0) != a0) = true := bne_iff_ne.mpr c22
               replace H := Option.bind_eq_some_iff.mp H
               obtain ⟨⟨t135, t136⟩, A240, H⟩ := H
               replace H : (some (t135, t136, wrap64 (x7_2 + 1))) = some (r1, r2, r3) := H
               have A24 := Aside0.mk A240
               clear A240
               simp only [Option.some.injEq, Prod.mk.injEq] at H
               obtain ⟨rfl, rfl, rfl⟩ := H
               have p127 : 0 ≤ (x7_2 : Int) := odx
               have q127 : x7_2 < (l1.length : Int) := odx
               obtain ⟨ad127, e127, hx127_0, hx127_1⟩ := at_T23 HR1.out x7_2 p127 q127
               cases e127
               replace hx127_0 := (HB.out.cell (World.block_lt_of_cell? w _ hx127_0)).trans hx127_0
               replace hx127_1 := (HB.out.cell (World.block_lt_of_cell? w _ hx127_1)).trans hx127_1
               replace p127 := eq_true p127
               replace q127 := eq_true q127
               go_wp2_with (first | ((with_reducible refine gate_callee (f := 19) rfl ?_); refine goesL_ (some 39) rfl rfl Tryd.func19 (by kernel_rfl) rfl #[.agg #[.int .i64 ((rd_T23 l1 x7_2).f0), .int .i64 ((rd_T23 l1 x7_2).f1)]] rfl agx ?_; (with_reducible refine (levyref1_Valid.calls ((rd_T23 l1 x7_2).f0) ((rd_T23 l1 x7_2).f1) true _ A17.out).mono ?_); rintro e w25 ⟨rfl, hb⟩; refine ⟨_, rfl, ?_⟩; have n0_ := Aside0.mk (blk_below (g := gb120) (o := .cells #[.int .i64 x121000_2, .int .i64 x121001_2] 23 (0, 0)) bkx hb); have n1_ := Aside0.mk (below_step blx hb); clear BK120; clear HB; have BK120 := n0_; have HB := n1_; clear n0_ n1_; (try clear hb); (try clear hb2); (try clear hk); (try clear hi); have p131 : 0 ≤ (x7_2 : Int) := odx; have q131 : x7_2 < (l1.length : Int) := odx; obtain ⟨ad131, e131, hx131_0, hx131_1⟩ := at_T23 HR1.out x7_2 p131 q131; obtain rfl : ad127 = ad131 := (by injection e131); replace hx131_0 := (HB.out.cell (World.block_lt_of_cell? w _ hx131_0)).trans hx131_0; replace hx131_1 := (HB.out.cell (World.block_lt_of_cell? w _ hx131_1)).trans hx131_1; replace p131 := eq_true p131; replace q131 := eq_true q131; have p133 : 0 ≤ (x7_2 : Int) := odx; have q133 : x7_2 < (l1.length : Int) := odx; obtain ⟨ad133, e133, hx133_0, hx133_1⟩ := at_T23 HR1.out x7_2 p133 q133; obtain rfl : ad127 = ad133 := (by injection e133); replace hx133_0 := (HB.out.cell (World.block_lt_of_cell? w _ hx133_0)).trans hx133_0; replace hx133_1 := (HB.out.cell (World.block_lt_of_cell? w _ hx133_1)).trans hx133_1; replace p133 := eq_true p133; replace q133 := eq_true q133) | ((with_reducible refine gate_callee (f := 57) rfl ?_); refine goesL_ (some 63) rfl rfl Tryd.func57 (by kernel_rfl) rfl #[.int .i64 5] rfl agx ?_; (with_reducible refine (levyref1_bad.calls 5 t135 t136 _ A24.out).mono ?_); rintro e w26 ⟨rfl, hb⟩; refine ⟨_, rfl, ?_⟩; have n0_ := Aside0.mk (blk_below (g := gb120) (o := .cells #[.int .i64 x121000_2, .int .i64 x121001_2] 23 (0, 0)) bkx hb); have n1_ := Aside0.mk (below_step blx hb); clear BK120; clear HB; have BK120 := n0_; have HB := n1_; clear n0_ n1_; (try clear hb); (try clear hb2); (try clear hk); (try clear hi); have hcz27_0 : w26.cell? ⟨gb120, 0, none⟩ = some (.int .i64 x121000_2) := (blk_cell BK120.out 0).trans rfl; have hcz27_1 : w26.cell? ⟨gb120, 1, none⟩ = some (.int .i64 x121001_2) := (blk_cell BK120.out 1).trans rfl; have hfz27_0 := blk_frozen BK120.out 0; have hfz27_1 := blk_frozen BK120.out 1))
               refine bodyPost_ret (results_ct rfl _ _ gb120 23 #[.int .i64 t135, .int .i64 t136] (0, 0) _ rfl (by (with_reducible repeat (first | refine blk_drewN ?_ _ | refine blk_drew ?_ | refine blk_alloc ?_ _)); refine blk_put (cs := #[.int .i64 t135, .int .i64 x121001_2]) ?_ 1 _ rfl; (with_reducible repeat (first | refine blk_drewN ?_ _ | refine blk_drew ?_ | refine blk_alloc ?_ _)); refine blk_put (cs := #[.int .i64 x121000_2, .int .i64 x121001_2]) ?_ 0 _ rfl; (with_reducible repeat (first | refine blk_drewN ?_ _ | refine blk_drew ?_ | refine blk_alloc ?_ _)); exact BK120.out) Tryd.underlying23 rfl (by kernel_rfl)) rfl ?_
               exact ⟨by first | rfl | (simp [errW_none, errW_some] <;> rfl) | (simp [*, errW_none, errW_some] <;> rfl), blx⟩
            ·replace c18 := Bool.eq_false_iff.mpr c18
             subst c18
             have H1 : ((levyref1_bad.f 5).bind fun bt129 => (some (bt129.1, bt129.2, wrap64 (x7_2 + 1)))) = some (r1, r2, r3) := by rw [if_neg (show ¬ (false = true) by decide)] at H; exact H
             clear H
             have H := H1
             clear H1
             replace H := Option.bind_eq_some_iff.mp H
             obtain ⟨⟨t129, t130⟩, A280, H⟩ := H
             replace H : (some (t129, t130, wrap64 (x7_2 + 1))) = some (r1, r2, r3) := H
             have A28 := Aside0.mk A280
             clear A280
             simp only [Option.some.injEq, Prod.mk.injEq] at H
             obtain ⟨rfl, rfl, rfl⟩ := H
             have p127 : 0 ≤ (x7_2 : Int) := odx
             have q127 : x7_2 < (l1.length : Int) := odx
             obtain ⟨ad127, e127, hx127_0, hx127_1⟩ := at_T23 HR1.out x7_2 p127 q127
             cases e127
             replace hx127_0 := (HB.out.cell (World.block_lt_of_cell? w _ hx127_0)).trans hx127_0
             replace hx127_1 := (HB.out.cell (World.block_lt_of_cell? w _ hx127_1)).trans hx127_1
             replace p127 := eq_true p127
             replace q127 := eq_true q127
             go_wp2_with (first | ((with_reducible refine gate_callee (f := 19) rfl ?_); refine goesL_ (some 39) rfl rfl Tryd.func19 (by kernel_rfl) rfl #[.agg #[.int .i64 ((rd_T23 l1 x7_2).f0), .int .i64 ((rd_T23 l1 x7_2).f1)]] rfl agx ?_; (with_reducible refine (levyref1_Valid.calls ((rd_T23 l1 x7_2).f0) ((rd_T23 l1 x7_2).f1) false _ A17.out).mono ?_); rintro e w29 ⟨rfl, hb⟩; refine ⟨_, rfl, ?_⟩; have n0_ := Aside0.mk (blk_below (g := gb120) (o := .cells #[.int .i64 x121000_2, .int .i64 x121001_2] 23 (0, 0)) bkx hb); have n1_ := Aside0.mk (below_step blx hb); clear BK120; clear HB; have BK120 := n0_; have HB := n1_; clear n0_ n1_; (try clear hb); (try clear hb2); (try clear hk); (try clear hi)) | ((with_reducible refine gate_callee (f := 57) rfl ?_); refine goesL_ (some 41) rfl rfl Tryd.func57 (by kernel_rfl) rfl #[.int .i64 5] rfl agx ?_; (with_reducible refine (levyref1_bad.calls 5 t129 t130 _ A28.out).mono ?_); rintro e w30 ⟨rfl, hb⟩; refine ⟨_, rfl, ?_⟩; have n0_ := Aside0.mk (blk_below (g := gb120) (o := .cells #[.int .i64 x121000_2, .int .i64 x121001_2] 23 (0, 0)) bkx hb); have n1_ := Aside0.mk (below_step blx hb); clear BK120; clear HB; have BK120 := n0_; have HB := n1_; clear n0_ n1_; (try clear hb); (try clear hb2); (try clear hk); (try clear hi); have hcz31_0 : w30.cell? ⟨gb120, 0, none⟩ = some (.int .i64 x121000_2) := (blk_cell BK120.out 0).trans rfl; have hcz31_1 : w30.cell? ⟨gb120, 1, none⟩ = some (.int .i64 x121001_2) := (blk_cell BK120.out 1).trans rfl; have hfz31_0 := blk_frozen BK120.out 0; have hfz31_1 := blk_frozen BK120.out 1))
             refine bodyPost_ret (results_ct rfl _ _ gb120 23 #[.int .i64 t129, .int .i64 t130] (0, 0) _ rfl (by (with_reducible repeat (first | refine blk_drewN ?_ _ | refine blk_drew ?_ | refine blk_alloc ?_ _)); refine blk_put (cs := #[.int .i64 t129, .int .i64 x121001_2]) ?_ 1 _ rfl; (with_reducible repeat (first | refine blk_drewN ?_ _ | refine blk_drew ?_ | refine blk_alloc ?_ _)); refine blk_put (cs := #[.int .i64 x121000_2, .int .i64 x121001_2]) ?_ 0 _ rfl; (with_reducible repeat (first | refine blk_drewN ?_ _ | refine blk_drew ?_ | refine blk_alloc ?_ _)); exact BK120.out) Tryd.underlying23 rfl (by kernel_rfl)) rfl ?_
             exact ⟨by first | rfl | (simp [errW_none, errW_some] <;> rfl) | (simp [*, errW_none, errW_some] <;> rfl), blx⟩
           ·rw [if_neg c16] at H
            exact absurd H (by simp)
          ·rw [if_neg c15] at H
           exact absurd H (by simp)
      ·rw [if_neg c10] at H
       have c10b0 : decide (x7_2 < (l1.length : Int)) = false := decide_eq_false c10
       clear c10
       replace H := Option.bind_eq_some_iff.mp H
       obtain ⟨⟨t123, t124⟩, A320, H⟩ := H
       replace H : (some (t123, t124, (l1.length : Int))) = some (r1, r2, r3) := H
       have A32 := Aside0.mk A320
       clear A320
       simp only [Option.some.injEq, Prod.mk.injEq] at H
       obtain ⟨rfl, rfl, rfl⟩ := H
       go_wp2_with (first | ((with_reducible refine gate_callee (f := 58) rfl ?_); refine goesL_ (some 75) rfl rfl Tryd.func58 (by kernel_rfl) rfl #[.int .i64 a0, .int .i64 x6_2] rfl agx ?_; (with_reducible refine (levyref1_bounded.calls a0 x6_2 t123 t124 _ A32.out).mono ?_); rintro e w33 ⟨rfl, hb⟩; refine ⟨_, rfl, ?_⟩; have n0_ := Aside0.mk (blk_below (g := gb120) (o := .cells #[.int .i64 x121000_2, .int .i64 x121001_2] 23 (0, 0)) bkx hb); have n1_ := Aside0.mk (below_step blx hb); clear BK120; clear HB; have BK120 := n0_; have HB := n1_; clear n0_ n1_; (try clear hb); (try clear hb2); (try clear hk); (try clear hi); have hcz34_0 : w33.cell? ⟨gb120, 0, none⟩ = some (.int .i64 x121000_2) := (blk_cell BK120.out 0).trans rfl; have hcz34_1 : w33.cell? ⟨gb120, 1, none⟩ = some (.int .i64 x121001_2) := (blk_cell BK120.out 1).trans rfl; have hfz34_0 := blk_frozen BK120.out 0; have hfz34_1 := blk_frozen BK120.out 1))
       refine bodyPost_ret (results_ct rfl _ _ gb120 23 #[.int .i64 t123, .int .i64 t124] (0, 0) _ rfl (by (with_reducible repeat (first | refine blk_drewN ?_ _ | refine blk_drew ?_ | refine blk_alloc ?_ _)); refine blk_put (cs := #[.int .i64 t123, .int .i64 x121001_2]) ?_ 1 _ rfl; (with_reducible repeat (first | refine blk_drewN ?_ _ | refine blk_drew ?_ | refine blk_alloc ?_ _)); refine blk_put (cs := #[.int .i64 x121000_2, .int .i64 x121001_2]) ?_ 0 _ rfl; (with_reducible repeat (first | refine blk_drewN ?_ _ | refine blk_drew ?_ | refine blk_alloc ?_ _)); exact BK120.out) Tryd.underlying23 rfl (by kernel_rfl)) rfl ?_
       exact ⟨by first | rfl | (simp [errW_none, errW_some] <;> rfl) | (simp [*, errW_none, errW_some] <;> rfl), blx⟩

end Go.Proofs.YtnjhjaifmgjljaaDoor.PM
